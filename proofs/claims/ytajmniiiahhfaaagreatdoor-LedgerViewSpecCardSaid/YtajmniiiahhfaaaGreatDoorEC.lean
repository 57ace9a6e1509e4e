import Derived.Test.YtajmniiiahhfaaaGreatDoorEB
import Derived.Test.YtajmniiiahhfaaaGreatDoorHD
import Derived.Test.YtajmniiiahhfaaaGreatDoorDB
import Derived.Test.YtajmniiiahhfaaaGreatDoorGC
set_option linter.unusedVariables false
set_option linter.unusedSimpArgs false
set_option maxRecDepth 100000
set_option maxHeartbeats 8000000
namespace Go.Hw
open Go
attribute [local irreducible] GO GOl GDp Val Fn Res CellsAt ValE Blk OwnS MapA OwnPf Has Yl
open Go.Proofs (Tryz.prog)
open Classical in
noncomputable def recL (l : List (Fsh × Fct)) (k : Int) : List (Fsh × Fct):=l.filter fun p => decide (p.2.known ≤ k)
theorem recL_snoc (l : List (Fsh × Fct)) (k : Int) (p : Fsh × Fct) : recL (l ++ [p]) k = recL l k ++ recL [p] k:=by unfold recL;rw [List.filter_append]
theorem recL_fcs (l : List (Fsh × Fct)) (k : Int) : fcs (recL l k) = knownL (fcs l) k:=by
  unfold recL knownL fcs
  rw [List.filter_map];rfl
theorem recL_sub (l : List (Fsh × Fct)) (k : Int) : ∀ p ∈ recL l k,p ∈ l ∧ p.2.known ≤ k:=fun p hp => by
  unfold recL at hp
  rw [List.mem_filter,decide_eq_true_eq] at hp
  exact hp
theorem recL_len (l : List (Fsh × Fct)) (k : Int) : (recL l k).length ≤ l.length:=by unfold recL;exact List.length_filter_le _ _
theorem recorded_c (h : Ro) (A : Option Addr) (n c : Nat) (k : Int) : Res Tryz.prog 79 #[ledV A n c,.int .i64 k] h (fun u h' => ∃ b1 b2,u = .func (.func 105) #[] #[.pointer (some ⟨b1,0,none⟩),.pointer (some ⟨b2,0,none⟩)] ∧ CellsAt h' ⟨b1,0,none⟩ [.slice A n c] ∧ CellsAt h' ⟨b2,0,none⟩ [.int .i64 k]):=by
  refine Res_intro (args:=[_,_]) ts_ok Go.Proofs.Tryz.func79 rfl rfl fun w0 X0 => ?_
  repeat' (first|apply GO_seq|apply GO_region|apply GOl_nil|(apply GOl_pv;(iterate 3 exact rfl))|(apply GOl_to;(iterate 3 exact rfl);(first|(apply OpTo_box;exact rfl;intro b;skip))))
  rename_i b1
  generalize b = b2
  refine GO_relB (b:=b1) (e:=47) (cs:=[.slice A n c]) QK ?_
  intro h1 hle1 hc1
  refine GO_relB (b:=b2) (e:=3) (cs:=[.int .i64 k]) QK ?_
  intro h2 hle2 hc2
  (first|(apply GO_retR1;(iterate 3 exact rfl)))
  exact ⟨b1,b2,rfl,hc1.le hle2,hc2⟩
open Classical in
theorem recSeq (h : Ro) (A : Option Addr) (n c : Nat) (l : List (Fsh × Fct)) (hx : FactsAt h A n l) (day : Int) (b1 b2 : Nat) (hb1 : CellsAt h ⟨b1,0,none⟩ [.slice A n c]) (hb2 : CellsAt h ⟨b2,0,none⟩ [.int .i64 day]) : SeqR Tryz.prog 105 [.pointer (some ⟨b1,0,none⟩),.pointer (some ⟨b2,0,none⟩)] FR (recL l day) h:=by
  intro lid I Ix mI mIx hround Es h1 hle h0
  refine Fn_intro (args:=[_,_,_]) ts_ok Go.Proofs.Tryz.func105 rfl rfl fun w0 X0 => ?_
  have hlen:=hx.row.len
  have hn:=hx.small
  have hd1:=hb1.le hle
  repeat' (first|apply GO_seq|apply GO_block|apply GO_region|apply GOl_nil|(apply GOl_pv;(iterate 3 exact rfl))|(apply GOl_ov;exact rfl;exact rfl;(first|(apply OV_load;exact rfl;exact Lv_ro rfl hd1 rfl));exact QA))
  refine GO_while (X:=Nat × List Asn × Ro) (fun x => x.1 ≤ n ∧ Le h x.2.2 ∧ I (recL (l.take x.1) day) x.2.1 x.2.2) (fun x => n - x.1) (fun x => [(9,.int .i64 x.1),(8,.int .i64 n),(7,.slice A n c),(0,.func (.yield lid) #[] #[]),(2,.pointer (some ⟨b2,0,none⟩))])
    (fun x => x.2.1) (fun x => x.2.2) (0,Es,h1) ⟨by omega,hle,h0⟩ QS rfl rfl ?_
  rintro ⟨k,Es1,hk⟩ ⟨hkn,hlk,hI⟩ ih
  dsimp only at hkn hlk hI ih ⊢
  by_cases hkn2 : k < n
  · have a1:=hx.row.addrD hkn2
    have c1:=(hx.row.cellsD p0 hkn2).le hlk
    have et:=take7 p0 (xs:=l) rfl (show k < l.length by omega)
    have hsplit:=take_split p0 (l:=l) rfl (show k < l.length by omega)
    generalize l.getD k p0 = p at *
    have hd2:=hb2.le hlk
    have hyl : p.2.known ≤ day → Yl Tryz.prog lid [factV p.1 p.2] Es1 hk fun v Es' h' => (v = .bool true ∧ I (recL (l.take (k + 1)) day) Es' h') ∨ (v = .bool false ∧ Ix (recL (l.take (k + 1)) day) Es' h'):=fun hv => by
      have e1 : recL [p] day = [p]:=by unfold recL;simp [hv]
      have e2 : recL (l.take (k + 1)) day = recL (l.take k) day ++ [p]:=by rw [et,recL_snoc,e1]
      have e3 : recL l day = recL (l.take k) day ++ p :: recL (l.drop (k + 1)) day:=by
        conv => lhs;rw [hsplit]
        unfold recL at e1 ⊢
        rw [List.filter_append,show p :: l.drop (k + 1) = [p] ++ l.drop (k + 1) from rfl,List.filter_append,e1];rfl
      rw [e2]
      exact hround _ _ _ _ _ _ e3 hlk rfl hI
    by_cases hv : p.2.known ≤ day
    · repeat' (first|apply GO_seq|apply GO_skip|apply GO_inBlock|apply GO_block|apply GO_region|apply GOl_nil|(apply GOl_add;(iterate 3 exact rfl);omega;exact rfl;exact rfl)|(apply GOl_pv;(iterate 3 exact rfl))|(apply GOl_load;exact rfl;exact Ld_blk rfl QM rfl;exact rfl;exact rfl)|(apply GOl_ov;exact rfl;exact rfl;(first|(apply OV_idxS (j:=k);(iterate 5 exact rfl);exact a1;(with_reducible exact rfl);omega)|(apply OV_load;exact rfl;exact Lv_ro rfl c1 rfl)|(apply OV_load;exact rfl;exact Lv_ro rfl hd2 rfl));exact QA)|(apply GOl_to;(iterate 3 exact rfl);(first|(apply OpTo_store;(iterate 3 exact rfl);exact QR;(iterate 3 exact rfl);skip)|(apply OpTo_alloc;exact rfl;intro b;skip)|(refine OpTo_perm (List.perm_append_comm (l₁:=[_])) ?_;apply OpTo_yield (Es0:=Es1) (Fs:=[_]);(iterate 3 exact rfl);exact hyl hv;rintro v E2 h2 hle2 (⟨rfl,hP⟩|⟨rfl,hP⟩);all_goals skip)))|(apply GO_cond;exact rfl;all_goals (intro hc;try simp only [hcS,reduceCtorEq] at hc;try (exfalso;omega)))|(apply GOl_split;exact rfl;exact rfl;all_goals (intro hc;try simp only [hcS,reduceCtorEq] at hc;try (exfalso;omega))))
      all_goals first
        | (exfalso;omega)
        | (have h3:=ih (k + 1,E2,h2) ⟨by show k + 1 ≤ n;omega,hlk.trans hle2,hP⟩ (by show n - (k + 1) < n - k;omega)
           refine GO_perm (List.perm_append_comm (l₁:=E2) (l₂:=[_])) (GO_drop .here ?_)
           exact GO_keep QS h3)
        | (refine GO_retS (rs:=[]) (vs:=[]) (Fs:=E2) rfl rfl trivial (List.sublist_append_left _ _) (.inr ⟨recL (l.take (k + 1)) day,recL (l.drop (k + 1)) day,?_,hP⟩)
           unfold recL;rw [← List.filter_append,List.take_append_drop])
    · have hno : recL (l.take (k + 1)) day = recL (l.take k) day:=by
        rw [et,recL_snoc];unfold recL;simp [hv]
      repeat' (first|apply GO_seq|apply GO_skip|apply GO_inBlock|apply GO_block|apply GO_region|apply GOl_nil|(apply GOl_unwanted;exact rfl;exact rfl)|(apply GOl_add;(iterate 3 exact rfl);omega;exact rfl;exact rfl)|(apply GOl_pv;(iterate 3 exact rfl))|(apply GOl_load;exact rfl;exact Ld_blk rfl QM rfl;exact rfl;exact rfl)|(apply GOl_ov;exact rfl;exact rfl;(first|(apply OV_idxS (j:=k);(iterate 5 exact rfl);exact a1;(with_reducible exact rfl);omega)|(apply OV_load;exact rfl;exact Lv_ro rfl c1 rfl)|(apply OV_load;exact rfl;exact Lv_ro rfl hd2 rfl));exact QA)|(apply GOl_to;(iterate 3 exact rfl);(first|(apply OpTo_store;(iterate 3 exact rfl);exact QR;(iterate 3 exact rfl);skip)|(apply OpTo_alloc;exact rfl;intro b;skip)))|(apply GO_cond;exact rfl;all_goals (intro hc;try simp only [hcS,reduceCtorEq] at hc;try (exfalso;omega)))|(apply GOl_split;exact rfl;exact rfl;all_goals (intro hc;try simp only [hcS,reduceCtorEq] at hc;try (exfalso;omega))))
      all_goals
        have h3:=ih (k + 1,Es1,hk) ⟨by show k + 1 ≤ n;omega,hlk,by show I (recL (l.take (k + 1)) day) _ _;rw [hno];exact hI⟩ (by show n - (k + 1) < n - k;omega)
        refine GO_drop .here ?_
        exact GO_keep QS h3
  · rw [List.take_of_length_le (by omega)] at hI
    repeat' (first|apply GO_seq|apply GO_region|apply GOl_nil|(apply GO_exit;exact rfl)|(apply GOl_pv;(iterate 3 exact rfl))|(apply GO_cond;exact rfl;all_goals (intro hc;try simp only [hcS,reduceCtorEq] at hc;try (exfalso;omega))))
    exact GO_end (rs:=[]) (vs:=[]) rfl rfl trivial (.inl hI)
end Go.Hw
set_option linter.unusedVariables false
set_option linter.unusedSimpArgs false
set_option maxRecDepth 100000
set_option maxHeartbeats 8000000
namespace Go.Hw
open Go
attribute [local irreducible] GO GOl GDp Val Fn Res CellsAt ValE Blk OwnS MapA OwnPf Has Yl
open Go.Proofs (Tryz.prog)
theorem appendSeq_c (h : Ro) (g : FuncId) (hg : Has Tryz.prog g) (b1 b2 : Nat) (xs : List (Fsh × Fct)) (hn : xs.length ≤ 1000000) (hs : SeqR Tryz.prog g [.pointer (some ⟨b1,0,none⟩),.pointer (some ⟨b2,0,none⟩)] FR xs h) :
    Fn Tryz.prog 114 #[.slice none 0 0,.func (.func g) #[] #[.pointer (some ⟨b1,0,none⟩),.pointer (some ⟨b2,0,none⟩)]] [] h fun u Es _ => Es = [OwnS 73 82 u xs.length (xs.flatMap encF82)]:=by
  refine Fn_intro (args:=[_,_]) ts_ok Go.Proofs.Tryz.func114 rfl rfl fun w0 X0 => ?_
  repeat' (first|apply GO_seq|apply GO_block|apply GO_region|apply GOl_nil|(apply GOl_pv;(iterate 3 exact rfl))|(apply GOl_to;(iterate 3 exact rfl);(first|(apply OpTo_box;exact rfl;intro b;skip))))
  generalize b = bT
  refine GO_nilS 73 82 ?_
  refine GO_take (Es':=[Blk bT 22 [.slice none 0 0],OwnS 73 82 (.slice none 0 0) 0 []]) QT ?_
  refine GO_rangeFuncR (R:=FR) (xs:=xs) (gf:=g) (lb:=[.pointer (some ⟨b1,0,none⟩),.pointer (some ⟨b2,0,none⟩)]) rfl rfl hg hs (by rintro x u h2 rfl;rfl) rfl
    (fun pre Es h2 => ∃ (A : Option Addr) (c : Nat),Es = [Blk bT 22 [.slice A pre.length c],OwnS 73 82 (.slice A pre.length c) pre.length (pre.flatMap encF82)]) (fun _ _ _ _ => False)
    (fun pre Es h2 h3 hl e => e) (fun _ _ _ _ _ _ h => h.elim) ⟨none,0,rfl⟩ ?_ ?_ (fun _ _ _ _ _ _ _ _ h => h.elim)
  · rintro lid r0 w1 X1 pre x post u Es1 h1 hxe rfl ⟨A,c,rfl⟩ hle hst
    have hpl : pre.length + 1 ≤ xs.length:=by rw [hxe];simp
    repeat' (first|apply GO_inBlock|apply GO_block|apply GO_region|apply GOl_nil|(apply GO_begin;exact rfl;exact QK;exact hst)|(apply GOl_load;exact rfl;exact Ld_blk rfl QM rfl;exact rfl;exact rfl)|(apply GOl_to;(iterate 3 exact rfl);(first|(apply OpTo_store;(iterate 3 exact rfl);exact QR;(iterate 3 exact rfl);skip)|(apply OpTo_alloc;exact rfl;intro b;skip)|(apply OpTo_buildSliceS (enc:=encF82) (n:=1) [x];(iterate 3 exact rfl);exact List.cons_ne_nil _ _;(iterate 4 exact rfl);exact encF82_len;exact rfl;exact rfl;intro b5 h5 hle5 hs5;skip)|(apply OpTo_appendS (enc:=encF82) (xs:=pre);(iterate 7 exact rfl);exact hs5;exact encF82_len;exact encF82_one;intro v1;exact QR;omega;exact rfl;intro A3 c3;skip))))
    all_goals
      refine GO_take (Es':=[LoopA lid { r0 with state:=.busy },Blk bT 22 [.slice A3 (pre.length + 1) c3],OwnS 73 82 (.slice A3 (pre.length + 1) c3) (pre.length + 1) ((pre ++ [x]).flatMap encF82)]) QT (GO_rEnd (r0:=r0) rfl .here ⟨A3,c3,?_⟩)
      rw [List.length_append];rfl
  · rintro D h1 Es1 hle ⟨A,c,rfl⟩
    repeat' (first|apply GO_seq|apply GO_inBlock|apply GO_region|apply GOl_nil|(apply GOl_pv;(iterate 3 exact rfl))|(apply GOl_load;exact rfl;exact Ld_blk rfl QM rfl;exact rfl;exact rfl))
    all_goals
      refine GO_rt (Rt_mark rfl QK (Rt_S (rs:=[.tmp 4]) (vs:=[.slice A xs.length c]) (Fs:=[OwnS 73 82 (.slice A xs.length c) xs.length (xs.flatMap encF82)]) rfl rfl ⟨rfl,trivial⟩ (by (repeat (first|exact List.Sublist.refl _|exact List.nil_sublist _|apply List.Sublist.cons_cons|apply List.Sublist.cons));done) rfl))
theorem collect_c (h : Ro) (g : FuncId) (hg : Has Tryz.prog g) (b1 b2 : Nat) (xs : List (Fsh × Fct)) (hn : xs.length ≤ 1000000) (hs : SeqR Tryz.prog g [.pointer (some ⟨b1,0,none⟩),.pointer (some ⟨b2,0,none⟩)] FR xs h) :
    Fn Tryz.prog 85 #[.func (.func g) #[] #[.pointer (some ⟨b1,0,none⟩),.pointer (some ⟨b2,0,none⟩)]] [] h fun u Es _ => Es = [OwnS 73 82 u xs.length (xs.flatMap encF82)]:=by
  refine Fn_intro (args:=[_]) ts_ok Go.Proofs.Tryz.func85 rfl rfl fun w0 X0 => ?_
  repeat' (first|apply GO_seq|apply GO_region|apply GOl_nil|(apply GOl_pv;(iterate 3 exact rfl))|(apply GOl_to;(iterate 3 exact rfl);(first|(apply OpTo_callP;exact rfl;exact has114;exact appendSeq_c _ g hg b1 b2 xs hn (hs.le (by first|exact Le.refl _|assumption|(repeat (first|assumption|(apply Le.trans;assumption)))));exact QT;rintro vc Ec hc1 hlc rfl;skip))))
  all_goals exact GO_retS1 rfl rfl rfl (.cons_cons _ (List.nil_sublist _)) rfl
open Classical in
noncomputable def knownE (l : List Fct) (k : Int) : List Fct × Int:=if ledE l ≠ 0 then ([],ledE l) else if ¬ (0 ≤ k ∧ k ≤ 1048576) then ([],1) else (knownL l k,0)
open Classical in
theorem knownLed_c (h : Ro) (hG : PowG h) (A : Option Addr) (n c : Nat) (l : List (Fsh × Fct)) (hx : FactsAt h A n l) (day : Int) : Res Tryz.prog 43 #[ledV A n c,.int .i64 day] h (fun u h' => ∃ v,u = .tuple #[v,.int .i64 (knownE (fcs l) day).2] ∧ LedOut h' v (knownE (fcs l) day).1):=by
  refine Res_intro (args:=[_,_]) ts_ok Go.Proofs.Tryz.func43 rfl rfl fun w0 X0 => ?_
  obtain ⟨e,he⟩ : ∃ e,e = ledE (fcs l):=⟨_,rfl⟩
  have hck : ∀ h',Le h h' → Res Tryz.prog 35 #[ledV A n c] h' (fun u _ => u = .int .i64 e):=fun h' hl => by rw [he];exact checkL_c h' (hG.le hl) A n c l (hx.le hl)
  have hn:=hx.small
  have hlen:=hx.row.len
  by_cases h0 : e = 0
  · by_cases h1 : 0 ≤ day ∧ day ≤ 1048576
    · have hkn : knownE (fcs l) day = (knownL (fcs l) day,0):=by unfold knownE;rw [if_neg (by rw [← he];omega),if_neg (fun q => q h1)]
      rw [hkn]
      have hok:=ledE_zero.1 (he ▸ h0)
      have hg : ∀ p ∈ l,FGd h p:=fun p hp => ⟨(hx.fat p hp).1,(hx.fat p hp).2,hok.2.1 _ (List.mem_map.2 ⟨p,hp,rfl⟩)⟩
      have hrl:=recL_len l day
      have hdv:=fun h' => isDay_c h' day
      rw [decide_eq_true h1] at hdv
      repeat' (first|apply GO_seq|apply GO_skip|apply GO_region|apply GOl_nil|(apply GOl_pv;(iterate 3 exact rfl))|(apply GOl_load;exact rfl;exact Ld_blk rfl QM rfl;exact rfl;exact rfl)|(apply GOl_to;(iterate 3 exact rfl);(first|(apply OpTo_box;exact rfl;intro b;skip)|(apply OpTo_alloc;exact rfl;intro b;skip)|(apply OpTo_res;exact rfl;exact has35;exact hck _ (by first|exact Le.refl _|assumption|(repeat (first|assumption|(apply Le.trans;assumption))));rintro v1 h3 hle1 rfl;skip)|(apply OpTo_val;exact rfl;exact has78;exact hdv _;skip)|(apply OpTo_res;exact rfl;exact has79;exact recorded_c _ A n c day;rintro v4 h4 hle4 ⟨b1,b2,rfl,hb1,hb2⟩;skip)|(apply OpTo_callP;exact rfl;exact has85;exact collect_c _ 105 has105 b1 b2 (recL l day) (Nat.le_trans hrl (by rw [hlen];exact hn)) (recSeq _ A n c l (hx.le (by first|exact Le.refl _|assumption|(repeat (first|assumption|(apply Le.trans;assumption))))) day b1 b2 hb1 hb2);exact QT;rintro vc Ec hc1 hlc rfl;skip)))|(apply GO_cond;exact rfl;all_goals (intro hc;try simp only [hcS,reduceCtorEq] at hc;try (exfalso;omega))))
      all_goals (try (exfalso;omega))
      refine GOl_relC (enc:=encF82) (e:=73) (sz:=82) (n:=(recL l day).length) (xs:=recL l day) encF82_len rfl QK ?_
      intro A9 c9 h9 hle9 e9 hnc9 hs9
      subst e9
      have hl9 : Le h h9:=(by first|exact Le.refl _|assumption|(repeat (first|assumption|(apply Le.trans;assumption))))
      have hout : LedOut h9 (ledV A9 (recL l day).length c9) (knownL (fcs l) day):=⟨A9,_,c9,recL l day,rfl,hnc9,⟨hs9,fun p hp => (hg p (recL_sub l day p hp).1).le hl9,by omega⟩,recL_fcs l day⟩
      repeat' (first|apply GOl_nil|(apply GOl_pv;(iterate 3 exact rfl))|(apply GOl_to;(iterate 3 exact rfl);(first|(apply OpTo_store;(iterate 3 exact rfl);exact QR;(iterate 3 exact rfl);skip))))
      all_goals exact GO_retRC2 rfl rfl rfl QM rfl rfl rfl ⟨_,rfl,hout⟩
    · have hkn : knownE (fcs l) day = ([],1):=by unfold knownE;rw [if_neg (by rw [← he];omega),if_pos h1]
      rw [hkn]
      have hdv:=fun h' => isDay_c h' day
      rw [decide_eq_false h1] at hdv
      repeat' (first|apply GO_seq|apply GO_skip|apply GO_region|apply GOl_nil|(apply GOl_pv;(iterate 3 exact rfl))|(apply GOl_load;exact rfl;exact Ld_blk rfl QM rfl;exact rfl;exact rfl)|(apply GOl_to;(iterate 3 exact rfl);(first|(apply OpTo_store;(iterate 3 exact rfl);exact QR;(iterate 3 exact rfl);skip)|(apply OpTo_box;exact rfl;intro b;skip)|(apply OpTo_alloc;exact rfl;intro b;skip)|(apply OpTo_res;exact rfl;exact has35;exact hck _ (by first|exact Le.refl _|assumption|(repeat (first|assumption|(apply Le.trans;assumption))));rintro v1 h3 hle1 rfl;skip)|(apply OpTo_val;exact rfl;exact has78;exact hdv _;skip)))|(apply GO_cond;exact rfl;all_goals (intro hc;try simp only [hcS,reduceCtorEq] at hc;try (exfalso;omega))))
      all_goals first
        | (exfalso;omega)
        | (exact GO_retRC2 rfl rfl rfl QM rfl rfl rfl ⟨ledV none 0 0,rfl,LedOut.nil _⟩)
  · have hkn : knownE (fcs l) day = ([],e):=by unfold knownE;rw [if_pos (by rw [← he];exact h0),he]
    rw [hkn]
    repeat' (first|apply GO_seq|apply GO_region|apply GOl_nil|(apply GOl_pv;(iterate 3 exact rfl))|(apply GOl_load;exact rfl;exact Ld_blk rfl QM rfl;exact rfl;exact rfl)|(apply GOl_to;(iterate 3 exact rfl);(first|(apply OpTo_store;(iterate 3 exact rfl);exact QR;(iterate 3 exact rfl);skip)|(apply OpTo_box;exact rfl;intro b;skip)|(apply OpTo_alloc;exact rfl;intro b;skip)|(apply OpTo_res;exact rfl;exact has35;exact hck _ (by first|exact Le.refl _|assumption|(repeat (first|assumption|(apply Le.trans;assumption))));rintro v1 h3 hle1 rfl;skip)))|(apply GO_cond;exact rfl;all_goals (intro hc;try simp only [hcS,reduceCtorEq] at hc;try (exfalso;omega))))
    all_goals first
      | (exfalso;omega)
      | (exact GO_retRC2 rfl rfl rfl QM rfl rfl rfl ⟨ledV none 0 0,rfl,LedOut.nil _⟩)
end Go.Hw
set_option linter.unusedVariables false
set_option linter.unusedSimpArgs false
set_option maxRecDepth 100000
set_option maxHeartbeats 8000000
namespace Go.Hw
open Go
attribute [local irreducible] GO GOl GDp Val Fn Res CellsAt ValE Blk OwnS MapA OwnPf Has Yl idF
open Go.Proofs (Tryz.prog)
def digV (d : List UInt8) : Value:=.agg (voidC d).toArray
theorem digV_eq {d : List UInt8} (h : d.length = 32) : dgV d = digV d:=by
  unfold dgV digV
  rw [← map_u8,← voidC_eq d h]
theorem id2_c (h : Ro) (hG : PowG h) (s : Fsh) (f : Fct) (hf : FAt h s f) (hs : FSm f) (hok : FctOk f) : Res Tryz.prog 38 #[factV s f] h fun u _ => u = .tuple #[digV (idF f),.int .i64 0] :=
  (id_c h hG s f hf hs).mono fun u h' _ e => by rw [e,if_pos hok,digV_eq (idF_len f)]
open Classical in
noncomputable def missE (a b : List Fct) : List (List UInt8) × Int:=if ledE a ≠ 0 then ([],ledE a) else if ledE b ≠ 0 then ([],ledE b) else ((missL a b).map idF,0)
theorem missL_snoc (a b : List Fct) (f : Fct) : missL a (b ++ [f]) = missL a b ++ missL a [f]:=by unfold missL;rw [List.filter_append]
open Classical in
theorem missL_one (a : List Fct) (f : Fct) : missL a [f] = if f ∈ a then [] else [f]:=by
  unfold missL
  by_cases h : f ∈ a <;> simp [h]
theorem voidC_len (d : List UInt8) : (voidC d).length = 32:=rfl
theorem voidC_one : ∀ d : List UInt8,∀ v ∈ voidC d,v.oneCell' = true:=fun d => allOne_ok rfl
open Classical in
theorem missing_c (h : Ro) (hG : PowG h) (A : Option Addr) (n c : Nat) (l : List (Fsh × Fct)) (hx : FactsAt h A n l) (B : Option Addr) (m d : Nat) (r : List (Fsh × Fct)) (hy : FactsAt h B m r) : Res Tryz.prog 49 #[ledV A n c,ledV B m d] h (fun u h' => ∃ A' k c',u = .tuple #[.slice A' k c',.int .i64 (missE (fcs l) (fcs r)).2] ∧ SlOf voidC 32 h' A' k (missE (fcs l) (fcs r)).1 ∧ k ≤ 1000000):=by
  refine Res_intro (args:=[_,_]) ts_ok Go.Proofs.Tryz.func49 rfl rfl fun w0 X0 => ?_
  obtain ⟨e,he⟩ : ∃ e,e = ledE (fcs l):=⟨_,rfl⟩
  have hck : ∀ h',Le h h' → Res Tryz.prog 35 #[ledV A n c] h' (fun u _ => u = .int .i64 e):=fun h' hl => by rw [he];exact checkL_c h' (hG.le hl) A n c l (hx.le hl)
  obtain ⟨g,hge⟩ : ∃ g,g = ledE (fcs r):=⟨_,rfl⟩
  have hcm : ∀ h',Le h h' → Res Tryz.prog 35 #[ledV B m d] h' (fun u _ => u = .int .i64 g):=fun h' hl => by rw [hge];exact checkL_c h' (hG.le hl) B m d r (hy.le hl)
  have hn:=hx.small
  have hm:=hy.small
  have hlen:=hx.row.len
  have hlem:=hy.row.len
  by_cases h0 : e = 0
  · by_cases h1 : g = 0
    · have hms : missE (fcs l) (fcs r) = ((missL (fcs l) (fcs r)).map idF,0):=by unfold missE;rw [if_neg (by rw [← he];omega),if_neg (by rw [← hge];omega)]
      rw [hms]
      have hok:=ledE_zero.1 (he ▸ h0)
      have hok2:=ledE_zero.1 (hge ▸ h1)
      have hg : ∀ p ∈ l,FGd h p:=fun p hp => ⟨(hx.fat p hp).1,(hx.fat p hp).2,hok.2.1 _ (List.mem_map.2 ⟨p,hp,rfl⟩)⟩
      have hg2 : ∀ p ∈ r,FGd h p:=fun p hp => ⟨(hy.fat p hp).1,(hy.fat p hp).2,hok2.2.1 _ (List.mem_map.2 ⟨p,hp,rfl⟩)⟩
      have hxl : LedAt h A n l:=⟨hx.row,hg,hx.small⟩
      have hyl : LedAt h B m r:=⟨hy.row,hg2,hy.small⟩
      refine GO_nilS 71 32 ?_
      repeat' (first|apply GO_seq|apply GO_block|apply GO_region|apply GOl_nil|(apply GOl_pv;(iterate 3 exact rfl))|(apply GOl_load;exact rfl;exact Ld_blk rfl QM rfl;exact rfl;exact rfl)|(apply GOl_to;(iterate 3 exact rfl);(first|(apply OpTo_box;exact rfl;intro b;skip)|(apply OpTo_buildSliceR (cs:=[.slice A n c,.slice B m d]);(iterate 3 exact rfl);exact List.cons_ne_nil _ _;(iterate 4 exact rfl);intro b6 h6 hle6 hcs6;(have hb0:=cells_at hcs6 (k:=0) rfl);(have hb1:=cells_at hcs6 (k:=1) rfl);skip))))
      rename_i b1
      generalize b = b2
      refine GO_loop ?_
      repeat' (first|apply GO_seq|apply GO_skip|apply GO_inBlock|apply GO_block|apply GO_region|apply GOl_nil|(apply GO_exit;exact rfl)|(apply GO_inLoop)|(apply GOl_add;(iterate 3 exact rfl);omega;exact rfl;exact rfl)|(apply GOl_pv;(iterate 3 exact rfl))|(apply GOl_load;exact rfl;exact Ld_blk rfl QM rfl;exact rfl;exact rfl)|(apply GOl_ov;exact rfl;exact rfl;(first|(apply OV_idx (j:=0);(iterate 5 exact rfl);omega;omega)|(apply OV_idx (j:=1);(iterate 5 exact rfl);omega;omega)|(apply OV_load;exact rfl;exact Lv_ro rfl (hb0.le (by first|exact Le.refl _|assumption|(repeat (first|assumption|(apply Le.trans;assumption))))) rfl)|(apply OV_load;exact rfl;exact Lv_ro rfl (hb1.le (by first|exact Le.refl _|assumption|(repeat (first|assumption|(apply Le.trans;assumption))))) rfl));exact QA)|(apply GOl_to;(iterate 3 exact rfl);(first|(apply OpTo_store;(iterate 3 exact rfl);exact QR;(iterate 3 exact rfl);skip)|(apply OpTo_alloc;exact rfl;intro b;skip)|(apply OpTo_res;exact rfl;exact has35;exact hck _ (by first|exact Le.refl _|assumption|(repeat (first|assumption|(apply Le.trans;assumption))));rintro v1 h3 hle1 rfl;skip)|(apply OpTo_res;exact rfl;exact has35;exact hcm _ (by first|exact Le.refl _|assumption|(repeat (first|assumption|(apply Le.trans;assumption))));rintro v1 h3 hle1 rfl;skip)))|(apply GO_cond;exact rfl;all_goals (intro hc;try simp only [hcS,reduceCtorEq] at hc;try (exfalso;omega))))
      all_goals (try (exfalso;omega))
      have hh3 : Le h h3:=(by first|exact Le.refl _|assumption|(repeat (first|assumption|(apply Le.trans;assumption))))
      clear he hge
      subst h0 h1
      refine GO_loopT (X:=Nat × Option Addr × Nat × Ro) (fun x => x.1 ≤ m ∧ Le h x.2.2.2) (fun x => m - x.1)
        (fun x => [(32,.int .i64 x.1),(31,.int .i64 m),(30,.slice B m d),(2,.pointer (some ⟨b1,0,none⟩)),(4,.slice x.2.1 (missL (fcs l) (fcs (r.take x.1))).length x.2.2.1)])
        (fun x => [Blk b1 47 [.slice A n c],OwnS 71 32 (.slice x.2.1 (missL (fcs l) (fcs (r.take x.1))).length x.2.2.1) (missL (fcs l) (fcs (r.take x.1))).length (((missL (fcs l) (fcs (r.take x.1))).map idF).flatMap voidC)]) (fun x => x.2.2.2) (0,none,0,h3) ⟨by dsimp only;omega,hh3⟩ QS QT rfl ?_
      rintro ⟨k,A9,c9,hk⟩ ⟨hkm,hlk⟩ ih
      dsimp only at hkm hlk ih ⊢
      by_cases hkm2 : k < m
      · have a1:=hy.row.addrD hkm2
        have c1:=(hy.row.cellsD p0 hkm2).le hlk
        have et:=take7 p0 (xs:=r) rfl (show k < r.length by omega)
        have hgm:=hyl.good _ (mem7 p0 (show k < r.length by omega))
        have hml : (missL (fcs l) (fcs (r.take k))).length ≤ k:=by
          have q1 : (missL (fcs l) (fcs (r.take k))).length ≤ (fcs (r.take k)).length:=List.length_filter_le _ _
          have q2 : (fcs (r.take k)).length = min k r.length:=by unfold fcs;rw [List.length_map,List.length_take]
          omega
        generalize r.getD k p0 = p at *
        have hto : fcs (r.take (k + 1)) = fcs (r.take k) ++ [p.2]:=by rw [et];unfold fcs;rw [List.map_append];rfl
        have hmt : missL (fcs l) (fcs (r.take (k + 1))) = missL (fcs l) (fcs (r.take k)) ++ missL (fcs l) [p.2]:=by rw [hto,missL_snoc]
        have hid : ∀ h',Le h h' → Res Tryz.prog 38 #[factV p.1 p.2] h' fun u _ => u = .tuple #[digV (idF p.2),.int .i64 0]:=fun h' hl => id2_c h' (hG.le hl) p.1 p.2 (hgm.le hl).1 hgm.2.1 hgm.2.2
        by_cases hin : p.2 ∈ l.map (·.2)
        · have hno : missL (fcs l) (fcs (r.take (k + 1))) = missL (fcs l) (fcs (r.take k)):=by rw [hmt,missL_one,if_pos hin,List.append_nil]
          have hse : ∀ h',Le h h' → Res Tryz.prog 83 #[.slice A n c,factV p.1 p.2,.func (.func 71) #[] #[]] h' (fun u _ => ∃ i : Int,u = .tuple #[.int .i64 i,.bool true]):=fun h' hl => (search_c h' (hG.le hl) A n c l (hxl.le hl) hok.2.2 p (hgm.le hl)).mono fun u _ _ e => by rw [decide_eq_true hin] at e;exact e
          repeat' (first|apply GO_seq|apply GO_skip|apply GO_block|apply GO_region|apply GOl_nil|(apply GO_exit;exact rfl)|(apply GOl_add;(iterate 3 exact rfl);omega;exact rfl;exact rfl)|(apply GOl_pv;(iterate 3 exact rfl))|(apply GOl_load;exact rfl;exact Ld_blk rfl QM rfl;exact rfl;exact rfl)|(apply GOl_ov;exact rfl;exact rfl;(first|(apply OV_idxS (j:=k);(iterate 5 exact rfl);exact a1;(with_reducible exact rfl);omega)|(apply OV_load;exact rfl;exact Lv_ro rfl c1 rfl));exact QA)|(apply GOl_to;(iterate 3 exact rfl);(first|(apply OpTo_store;(iterate 3 exact rfl);exact QR;(iterate 3 exact rfl);skip)|(apply OpTo_alloc;exact rfl;intro b;skip)|(apply OpTo_res;exact rfl;exact has83;exact hse _ (by first|exact Le.refl _|assumption|(repeat (first|assumption|(apply Le.trans;assumption))));rintro vr hr1 hle1 ⟨i,rfl⟩;skip)))|(apply GO_cond;exact rfl;all_goals (intro hc;try simp only [hcS,reduceCtorEq] at hc;try (exfalso;omega))))
          all_goals
            have h3:=ih (k + 1,A9,c9,hr1) ⟨by dsimp only;omega,by dsimp only;exact hlk.trans hle1⟩ (by dsimp only;omega)
            dsimp only at h3
            rw [hno] at h3
            refine GO_fit QS QT (h3)
        · have hyes : missL (fcs l) (fcs (r.take (k + 1))) = missL (fcs l) (fcs (r.take k)) ++ [p.2]:=by rw [hmt,missL_one,if_neg hin]
          have hse : ∀ h',Le h h' → Res Tryz.prog 83 #[.slice A n c,factV p.1 p.2,.func (.func 71) #[] #[]] h' (fun u _ => ∃ i : Int,u = .tuple #[.int .i64 i,.bool false]):=fun h' hl => (search_c h' (hG.le hl) A n c l (hxl.le hl) hok.2.2 p (hgm.le hl)).mono fun u _ _ e => by rw [decide_eq_false hin] at e;exact e
          generalize missL (fcs l) (fcs (r.take k)) = out at *
          repeat' (first|apply GO_seq|apply GO_skip|apply GO_inBlock|apply GO_block|apply GO_region|apply GOl_nil|(apply GOl_add;(iterate 3 exact rfl);omega;exact rfl;exact rfl)|(apply GOl_pv;(iterate 3 exact rfl))|(apply GOl_load;exact rfl;exact Ld_blk rfl QM rfl;exact rfl;exact rfl)|(apply GOl_ov;exact rfl;exact rfl;(first|(apply OV_idxS (j:=k);(iterate 5 exact rfl);exact a1;(with_reducible exact rfl);omega)|(apply OV_load;exact rfl;exact Lv_ro rfl c1 rfl));exact QA)|(apply GOl_to;(iterate 3 exact rfl);(first|(apply OpTo_store;(iterate 3 exact rfl);exact QR;(iterate 3 exact rfl);skip)|(apply OpTo_alloc;exact rfl;intro b;skip)|(apply OpTo_res;exact rfl;exact has83;exact hse _ (by first|exact Le.refl _|assumption|(repeat (first|assumption|(apply Le.trans;assumption))));rintro vr hr1 hle1 ⟨i,rfl⟩;skip)|(apply OpTo_res;exact rfl;exact has38;exact hid _ (by first|exact Le.refl _|assumption|(repeat (first|assumption|(apply Le.trans;assumption))));rintro vi hi1 hle2 rfl;skip)|(apply OpTo_buildSliceS (enc:=voidC) (n:=1) [idF p.2];(iterate 3 exact rfl);exact List.cons_ne_nil _ _;(iterate 4 exact rfl);exact voidC_len;exact rfl;exact rfl;intro b5 h5 hle5 hs5;skip)|(apply OpTo_appendS (enc:=voidC) (xs:=out.map idF);(iterate 7 exact rfl);exact hs5;exact voidC_len;exact voidC_one;intro v1;exact QR;omega;exact rfl;intro A3 c3;skip)))|(apply GO_cond;exact rfl;all_goals (intro hc;try simp only [hcS,reduceCtorEq] at hc;try (exfalso;omega))))
          all_goals
            have h3:=ih (k + 1,A3,c3,h5) ⟨by dsimp only;omega,by dsimp only;exact ((hlk.trans hle1).trans hle2).trans hle5⟩ (by dsimp only;omega)
            simp only [hyes,List.map_append,List.length_append,List.map_cons,List.map_nil,List.length_cons,List.length_nil,Nat.zero_add] at h3
            refine GO_fit QS QT (h3)
      · rw [List.take_of_length_le (show r.length ≤ k by omega)] at *
        have hmn : (missL (fcs l) (fcs r)).length ≤ 1000000:=by
          have q1 : (missL (fcs l) (fcs r)).length ≤ (fcs r).length:=List.length_filter_le _ _
          have q2 : (fcs r).length = r.length:=by unfold fcs;rw [List.length_map]
          omega
        generalize missL (fcs l) (fcs r) = out at *
        repeat' (first|apply GO_seq|apply GO_region|apply GOl_nil|(apply GO_exit;exact rfl)|(apply GOl_pv;(iterate 3 exact rfl))|(apply GO_cond;exact rfl;all_goals (intro hc;try simp only [hcS,reduceCtorEq] at hc;try (exfalso;omega))))
        all_goals
          refine GO_relS (enc:=voidC) (e:=71) (sz:=32) (n:=out.length) (xs:=out.map idF) voidC_len (List.length_map ..) QK ?_
          intro A8 c8 h8 hle8 e8 hs8
          cases e8
          exact GO_retR2 rfl rfl rfl rfl ⟨A9,_,c9,rfl,hs8,hmn⟩
    · have hms : missE (fcs l) (fcs r) = ([],g):=by unfold missE;rw [if_neg (by rw [← he];omega),if_pos (by rw [← hge];exact h1),hge]
      rw [hms]
      repeat' (first|apply GO_seq|apply GO_skip|apply GO_inBlock|apply GO_block|apply GO_region|apply GOl_nil|(apply GO_loop)|(apply GO_inLoop)|(apply GOl_add;(iterate 3 exact rfl);omega;exact rfl;exact rfl)|(apply GOl_pv;(iterate 3 exact rfl))|(apply GOl_load;exact rfl;exact Ld_blk rfl QM rfl;exact rfl;exact rfl)|(apply GOl_ov;exact rfl;exact rfl;(first|(apply OV_idx (j:=0);(iterate 5 exact rfl);omega;omega)|(apply OV_idx (j:=1);(iterate 5 exact rfl);omega;omega)|(apply OV_load;exact rfl;exact Lv_ro rfl (hb0.le (by first|exact Le.refl _|assumption|(repeat (first|assumption|(apply Le.trans;assumption))))) rfl)|(apply OV_load;exact rfl;exact Lv_ro rfl (hb1.le (by first|exact Le.refl _|assumption|(repeat (first|assumption|(apply Le.trans;assumption))))) rfl));exact QA)|(apply GOl_to;(iterate 3 exact rfl);(first|(apply OpTo_store;(iterate 3 exact rfl);exact QR;(iterate 3 exact rfl);skip)|(apply OpTo_box;exact rfl;intro b;skip)|(apply OpTo_alloc;exact rfl;intro b;skip)|(apply OpTo_buildSliceR (cs:=[.slice A n c,.slice B m d]);(iterate 3 exact rfl);exact List.cons_ne_nil _ _;(iterate 4 exact rfl);intro b6 h6 hle6 hcs6;(have hb0:=cells_at hcs6 (k:=0) rfl);(have hb1:=cells_at hcs6 (k:=1) rfl);skip)|(apply OpTo_res;exact rfl;exact has35;exact hck _ (by first|exact Le.refl _|assumption|(repeat (first|assumption|(apply Le.trans;assumption))));rintro v1 h3 hle1 rfl;skip)|(apply OpTo_res;exact rfl;exact has35;exact hcm _ (by first|exact Le.refl _|assumption|(repeat (first|assumption|(apply Le.trans;assumption))));rintro v1 h3 hle1 rfl;skip)))|(apply GO_cond;exact rfl;all_goals (intro hc;try simp only [hcS,reduceCtorEq] at hc;try (exfalso;omega))))
      all_goals first
        | (exfalso;omega)
        | (exact GO_retR2 rfl rfl rfl rfl ⟨none,0,0,rfl,SlOf.nil,by omega⟩)
  · have hms : missE (fcs l) (fcs r) = ([],e):=by unfold missE;rw [if_pos (by rw [← he];exact h0),he]
    rw [hms]
    repeat' (first|apply GO_seq|apply GO_skip|apply GO_block|apply GO_region|apply GOl_nil|(apply GO_loop)|(apply GOl_pv;(iterate 3 exact rfl))|(apply GOl_load;exact rfl;exact Ld_blk rfl QM rfl;exact rfl;exact rfl)|(apply GOl_ov;exact rfl;exact rfl;(first|(apply OV_idx (j:=0);(iterate 5 exact rfl);omega;omega)|(apply OV_load;exact rfl;exact Lv_ro rfl (hb0.le (by first|exact Le.refl _|assumption|(repeat (first|assumption|(apply Le.trans;assumption))))) rfl));exact QA)|(apply GOl_to;(iterate 3 exact rfl);(first|(apply OpTo_store;(iterate 3 exact rfl);exact QR;(iterate 3 exact rfl);skip)|(apply OpTo_box;exact rfl;intro b;skip)|(apply OpTo_alloc;exact rfl;intro b;skip)|(apply OpTo_buildSliceR (cs:=[.slice A n c,.slice B m d]);(iterate 3 exact rfl);exact List.cons_ne_nil _ _;(iterate 4 exact rfl);intro b6 h6 hle6 hcs6;(have hb0:=cells_at hcs6 (k:=0) rfl);(have hb1:=cells_at hcs6 (k:=1) rfl);skip)|(apply OpTo_res;exact rfl;exact has35;exact hck _ (by first|exact Le.refl _|assumption|(repeat (first|assumption|(apply Le.trans;assumption))));rintro v1 h3 hle1 rfl;skip)))|(apply GO_cond;exact rfl;all_goals (intro hc;try simp only [hcS,reduceCtorEq] at hc;try (exfalso;omega))))
    all_goals first
      | (exfalso;omega)
      | (exact GO_retR2 rfl rfl rfl rfl ⟨none,0,0,rfl,SlOf.nil,by omega⟩)
end Go.Hw

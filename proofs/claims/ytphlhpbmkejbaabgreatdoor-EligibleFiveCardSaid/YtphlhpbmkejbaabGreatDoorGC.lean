import Derived.Test.YtphlhpbmkejbaabGreatDoorGB
import Derived.Test.YtphlhpbmkejbaabGreatDoorHC
set_option linter.unusedVariables false
set_option linter.unusedSimpArgs false
set_option maxRecDepth 100000
set_option maxHeartbeats 4000000
namespace Go.Hw
open Go
attribute [local irreducible] GO GOl GDp Val Fn Res CellsAt ValE Blk OwnS MapA OwnPf Has Yl
open Go.Proofs (Tryz.prog)
def ER (bs : List UInt8) (u : List Value) (h : Ro) : Prop:=∃ v,u = [vaV v] ∧ VEnc 4 h v bs
theorem Zip7.nil {α β : Type} {P : α → β → Prop} : Zip7 P [] []:=⟨rfl,fun i a b h => by simp at h⟩
theorem Zip7.cons {α β : Type} {P : α → β → Prop} {l : List α} {m : List β} {a : α} {b : β} (h : P a b) (z : Zip7 P l m) : Zip7 P (a :: l) (b :: m):=by
  refine ⟨by simp [z.1],fun i x y h1 h2 => ?_⟩
  cases i with
  | zero =>
    rw [List.getElem?_cons_zero] at h1 h2
    injection h1 with h1;injection h2 with h2
    subst h1;subst h2;exact h
  | succ i =>
    rw [List.getElem?_cons_succ] at h1 h2
    exact z.2 i x y h1 h2
theorem take_split {α : Type} (d : α) {l : List α} {k n : Nat} (hlen : l.length = n) (hk : k < n) : l = l.take k ++ l.getD k d :: l.drop (k + 1):=by
  rw [← drop7 d hlen hk,List.take_append_drop]
theorem put_c (xs : List (List UInt8)) (lid : Nat) (I Ix : List (List UInt8) → List Asn → Ro → Prop) (mI : ∀ pre Es h1 h2,Le h1 h2 → I pre Es h1 → I pre Es h2) (h : Ro)
    (hround : ∀ pre x post u Es h1,xs = pre ++ x :: post → Le h h1 → ER x u h1 → I pre Es h1 → Yl Tryz.prog lid u Es h1 fun v Es' h' => (v = .bool true ∧ I (pre ++ [x]) Es' h') ∨ (v = .bool false ∧ Ix (pre ++ [x]) Es' h'))
    (A : Option Addr) (n c : Nat) (vs : List Va) (hx : SlOf vaC 5 h A n vs) (hz : Zip7 (VEnc 4 h) vs xs) (hn : n ≤ 1000000) (by_ : Nat) (hy : CellsAt h ⟨by_,0,none⟩ [.func (.yield lid) #[] #[]]) (Es : List Asn) (h0 : I [] Es h) :
    Fn Tryz.prog 126 #[.slice A n c,.pointer (some ⟨by_,0,none⟩)] Es h fun v Es' h' => I xs Es' h' ∨ ∃ pre post,xs = pre ++ post ∧ Ix pre Es' h':=by
  refine Fn_intro (args:=[_,_]) ts_ok Go.Proofs.Tryz.func126 rfl rfl fun w0 X0 => ?_
  have hlen:=hx.len
  have hzl:=hz.1
  repeat' (first|apply GO_seq|apply GO_block|apply GO_region|apply GOl_nil|(apply GOl_pv;(iterate 3 exact rfl)))
  refine GO_while (X:=Nat × List Asn × Ro) (fun x => x.1 ≤ n ∧ Le h x.2.2 ∧ I (xs.take x.1) x.2.1 x.2.2) (fun x => n - x.1) (fun x => [(7,.int .i64 x.1),(6,.int .i64 n),(5,.slice A n c),(1,.pointer (some ⟨by_,0,none⟩))])
    (fun x => x.2.1) (fun x => x.2.2) (0,Es,h) ⟨by omega,Le.refl _,h0⟩ QS rfl rfl ?_
  rintro ⟨k,Es1,hk⟩ ⟨hkn,hlk,hI⟩ ih
  dsimp only at hkn hlk hI ih ⊢
  by_cases hkn2 : k < n
  · have a1:=hx.addrD hkn2
    have c1:=(hx.cellsD va0 hkn2).le hlk
    have et:=take7 [] (xs:=xs) rfl (show k < xs.length by omega)
    have hsplit:=take_split [] (l:=xs) rfl (show k < xs.length by omega)
    have hyk:=hy.le hlk
    have hv:=(hz.2 k _ _ (by simp [List.getD,List.getElem?_eq_getElem (show k < vs.length by omega)]) (by simp [List.getD,List.getElem?_eq_getElem (show k < xs.length by omega)]) : VEnc 4 h (vs.getD k va0) (xs.getD k []))
    generalize vs.getD k va0 = u at *
    have hyl:=hround (xs.take k) (xs.getD k []) (xs.drop (k + 1)) [vaV u] Es1 hk hsplit hlk ⟨u,rfl,hv.le hlk⟩ hI
    rw [← et] at hyl
    repeat' (first|apply GO_seq|apply GO_skip|apply GO_inBlock|apply GO_block|apply GO_region|apply GOl_nil|(apply GOl_add;(iterate 3 exact rfl);omega;exact rfl;exact rfl)|(apply GOl_pv;(iterate 3 exact rfl))|(apply GOl_load;exact rfl;exact Ld_blk rfl QM rfl;exact rfl;exact rfl)|(apply GOl_ov;exact rfl;exact rfl;(first|(apply OV_idxS (j:=k);(iterate 5 exact rfl);exact a1;(with_reducible exact rfl);omega)|(apply OV_load;exact rfl;exact Lv_ro rfl c1 rfl)|(apply OV_load;exact rfl;exact Lv_ro rfl hyk rfl));exact QA)|(apply GOl_to;(iterate 3 exact rfl);(first|(apply OpTo_store;(iterate 3 exact rfl);exact QR;(iterate 3 exact rfl);skip)|(apply OpTo_alloc;exact rfl;intro b;skip)|(refine OpTo_perm (List.perm_append_comm (l₁:=[_])) ?_;apply OpTo_yield (Es0:=Es1) (Fs:=[_]);(iterate 3 exact rfl);exact hyl;rintro v E2 h2 hle2 (⟨rfl,hP⟩|⟨rfl,hP⟩);all_goals skip)))|(apply GO_cond;exact rfl;all_goals (intro hc;try simp only [hcS,reduceCtorEq] at hc;try (exfalso;omega))))
    all_goals first
      | (have h3:=ih (k + 1,E2,h2) ⟨by show k + 1 ≤ n;omega,hlk.trans hle2,hP⟩ (by show n - (k + 1) < n - k;omega)
         refine GO_perm (List.perm_append_comm (l₁:=E2) (l₂:=[_])) (GO_drop .here ?_)
         exact GO_keep QS h3)
      | (refine GO_retS (rs:=[]) (vs:=[]) (Fs:=E2) rfl rfl trivial (List.sublist_append_left _ _) (.inr ⟨xs.take (k + 1),xs.drop (k + 1),?_,hP⟩)
         rw [List.take_append_drop])
  · rw [List.take_of_length_le (by omega)] at hI
    repeat' (first|apply GO_seq|apply GO_region|apply GOl_nil|(apply GO_exit;exact rfl)|(apply GOl_pv;(iterate 3 exact rfl))|(apply GO_cond;exact rfl;all_goals (intro hc;try simp only [hcS,reduceCtorEq] at hc;try (exfalso;omega))))
    exact GO_end (rs:=[]) (vs:=[]) rfl rfl trivial (.inl hI)
def elemsB (f : Fct) : List (List UInt8) :=
  if f.kind = 1 then [bInt f.eS,bInt f.eC,bNums f.eClubs,bText f.eRules]
  else if f.kind = 2 then [bNums (gameL f.fg),bInt f.venue]
  else if f.kind = 3 then [bNums (gameL f.sh.g),bInt f.sh.ref,bInt f.sh.hg,bInt f.sh.ag,bInt f.sh.hp,bInt f.sh.ap,bNums f.sh.hs,bNums f.sh.asn,bCards f.sh.hc,bCards f.sh.ac]
  else if f.kind = 4 then [bInt f.ru.case,bInt f.ru.inst,bInt f.ru.kind,bNums (gameL f.ru.g),bInt f.ru.club,bInt f.ru.player,bInt f.ru.season,bInt f.ru.comp,bInt f.ru.points,bInt f.ru.amount,bInt f.ru.hg,bInt f.ru.ag,bInt f.ru.lo,bInt f.ru.hi]
  else if f.kind = 5 then [bInt f.aCase,bInt f.aInst,bInt (if f.aSusp then 1 else 0)]
  else if f.kind = 6 then [bInt f.mP,bInt f.mTo]
  else if f.kind = 7 then [bInt f.lS,bInt f.lC,bNums f.lO]
  else [bText f.void]
theorem elems_flat (f : Fct) : (elemsB f).flatten = contentB f:=by
  unfold elemsB contentB ints
  split
  · simp
  · split
    · simp
    · split
      · simp
      · split
        · simp
        · split
          · simp
          · split
            · simp
            · split
              · simp
              · simp
theorem bel_i {n m : Int} (h : Bel n m) (hm : m ≤ 9223372036854775807) : I64 n:=by unfold Bel at h;unfold I64;omega
theorem game_i {g : FGame} (h : GameOk g) : GameI g:=⟨bel_i h.1 (by omega),bel_i h.2.1 (by omega),bel_i h.2.2.1 (by omega),bel_i h.2.2.2.1 (by omega)⟩
theorem game0_i : GameI game0:=by unfold GameI game0 I64;simp
theorem el1_c (h : Ro) (s : Fsh) (f : Fct) (hf : FAt h s f) (hs : FSm1 f) (bx : Nat) (hb : CellsAt h ⟨bx,0,none⟩ (factC s f)) (e : f.kind = 1) (i1 : I64 f.eS) (i2 : I64 f.eC) (i3 : ∀ x ∈ f.eClubs,I64 x) : SeqR Tryz.prog 125 [.pointer (some ⟨bx,0,none⟩)] ER (elemsB f) h:=by
  have hxs : elemsB f = [bInt f.eS,bInt f.eC,bNums f.eClubs,bText f.eRules]:=by unfold elemsB;rw [e];rfl
  rw [hxs]
  intro lid I Ix mI mIx hround Es h1 hle h0
  refine Fn_intro (args:=[_,_]) ts_ok Go.Proofs.Tryz.func125 rfl rfl fun w0 X0 => ?_
  have hb1:=hb.le hle
  have hf1:=hf.le hle
  obtain ⟨n1,n2,n3,n4,n5,n6⟩:=hf.small1 hs
  repeat' (first|apply GO_seq|apply GO_inBlock|apply GO_block|apply GO_region|apply GOl_nil|(apply GOl_pv;(iterate 3 exact rfl))|(apply GOl_ov;exact rfl;exact rfl;(first|(apply OV_load;exact rfl;first|exact Lv_ro rfl (by assumption) rfl|exact Lv_roF rfl (by assumption) rfl|exact Lv_roF2 rfl (by assumption) rfl|exact Lv_roF3 rfl (by assumption) rfl));exact QA)|(apply GOl_to;(iterate 3 exact rfl);(first|(apply OpTo_box;exact rfl;intro b;skip)))|(apply GO_drawp (n:=4) [0,1,2,3,4,5,6,7,8,9,10,11,12,13,14,15,16,17,18] [(0,0),(1,0),(2,0),(3,0),(5,0),(6,0),(7,0),(9,0),(10,0),(11,0),(13,0),(14,0),(15,0),(4,1),(8,1),(12,1),(16,1),(17,1),(18,1)];kernel_rfl)|(apply GP_pv;exact rfl;kernel_rfl;(iterate 3 exact rfl))|(apply GP_ov;exact rfl;kernel_rfl;exact rfl;exact rfl;(first|(apply OV_load;exact rfl;first|exact Lv_ro rfl (by assumption) rfl|exact Lv_roF rfl (by assumption) rfl|exact Lv_roF2 rfl (by assumption) rfl|exact Lv_roF3 rfl (by assumption) rfl));exact QA)|(apply GP_real;exact rfl;kernel_rfl;(iterate 3 exact rfl);(first|(apply OpTo_res;exact rfl;exact has127;exact numsV_c (d:=2) _ _ _ _ f.eClubs (hf1.cl.le (by first|exact Le.refl _|assumption|(repeat (first|assumption|(apply Le.trans;assumption))))) (by omega) i3;rintro wva hva hleva ⟨va,rfl,hvva⟩;refine ⟨hleva,QN,?_⟩)|(apply OpTo_buildSliceS (enc:=vaC) (n:=4) [vaInt f.eS,vaInt f.eC,va,vaText f.eRules];(iterate 3 exact rfl);exact List.cons_ne_nil _ _;(iterate 4 exact rfl);exact vaC_len;exact rfl;exact rfl;intro bz hz hlez hsl;refine ⟨hlez,QN,?_⟩)|(refine OpTo_relB QK ?_;intro h5 hle5 hcy;apply OpTo_call' (f:=126) (fs:=[]) (cs:=[.pointer (some ⟨_,0,none⟩)]) (Es0:=Es) (Fs:=[]);exact rfl;exact rfl;exact (List.append_nil _).symm;exact has126;exact put_c _ lid I Ix mI h5 (fun pre x post u Es2 h2 e5 hle2 hr hI => hround pre x post u Es2 h2 e5 (Le.trans (by first|exact Le.refl _|assumption|(repeat (first|assumption|(apply Le.trans;assumption)))) hle2) hr hI) _ _ _ _ (hsl.le (by first|exact Le.refl _|assumption|(repeat (first|assumption|(apply Le.trans;assumption))))) (Zip7.cons (venc_int i1) (Zip7.cons (venc_int i2) (Zip7.cons (hvva.le (by first|exact Le.refl _|assumption|(repeat (first|assumption|(apply Le.trans;assumption))))) (Zip7.cons (venc_text) Zip7.nil)))) (by omega) _ hcy Es (mI _ _ _ _ (by first|exact Le.refl _|assumption|(repeat (first|assumption|(apply Le.trans;assumption)))) h0);intro v6 E6 h6 hle6 hp6;refine ⟨hle5.trans hle6,QN,?_⟩)|(apply OpTo_val;exact rfl;exact has68;exact num_c _ _;refine ⟨Le.refl _,QN,?_⟩)|(apply OpTo_val;exact rfl;exact has128;exact textV_c _ _;refine ⟨Le.refl _,QN,?_⟩)))|(apply GP_done;kernel_rfl;exact rfl)|(apply GO_cond;exact rfl;all_goals (intro hc;try simp only [hcS,reduceCtorEq] at hc;try (exfalso;omega))))
  all_goals (try (exfalso;omega))
  all_goals
    rw [List.append_nil]
    exact GO_end (rs:=[]) (vs:=[]) rfl rfl trivial hp6
theorem el2_c (h : Ro) (s : Fsh) (f : Fct) (hf : FAt h s f) (hs : FSm1 f) (bx : Nat) (hb : CellsAt h ⟨bx,0,none⟩ (factC s f)) (e : f.kind = 2) (i1 : GameI f.fg) (i2 : I64 f.venue) : SeqR Tryz.prog 125 [.pointer (some ⟨bx,0,none⟩)] ER (elemsB f) h:=by
  have hxs : elemsB f = [bNums (gameL f.fg),bInt f.venue]:=by unfold elemsB;rw [e];rfl
  rw [hxs]
  intro lid I Ix mI mIx hround Es h1 hle h0
  refine Fn_intro (args:=[_,_]) ts_ok Go.Proofs.Tryz.func125 rfl rfl fun w0 X0 => ?_
  have hb1:=hb.le hle
  have hf1:=hf.le hle
  obtain ⟨n1,n2,n3,n4,n5,n6⟩:=hf.small1 hs
  repeat' (first|apply GO_seq|apply GO_inBlock|apply GO_block|apply GO_region|apply GOl_nil|(apply GOl_pv;(iterate 3 exact rfl))|(apply GOl_ov;exact rfl;exact rfl;(first|(apply OV_load;exact rfl;first|exact Lv_ro rfl (by assumption) rfl|exact Lv_roF rfl (by assumption) rfl|exact Lv_roF2 rfl (by assumption) rfl|exact Lv_roF3 rfl (by assumption) rfl));exact QA)|(apply GOl_to;(iterate 3 exact rfl);(first|(apply OpTo_box;exact rfl;intro b;skip)))|(apply GO_drawp (n:=6) [0,1,2,3,4,5,6,7,8,9,10] [(0,0),(1,0),(2,0),(3,0),(5,0),(6,0),(7,0),(4,1),(8,1),(9,1),(10,1)];kernel_rfl)|(apply GP_pv;exact rfl;kernel_rfl;(iterate 3 exact rfl))|(apply GP_ov;exact rfl;kernel_rfl;exact rfl;exact rfl;(first|(apply OV_load;exact rfl;first|exact Lv_ro rfl (by assumption) rfl|exact Lv_roF rfl (by assumption) rfl|exact Lv_roF2 rfl (by assumption) rfl|exact Lv_roF3 rfl (by assumption) rfl));exact QA)|(apply GP_real;exact rfl;kernel_rfl;(iterate 3 exact rfl);(first|(apply OpTo_res;exact rfl;exact has129;exact gameV_c (d:=2) _ f.fg i1;rintro wva hva hleva ⟨va,rfl,hvva⟩;refine ⟨hleva,QN,?_⟩)|(apply OpTo_buildSliceS (enc:=vaC) (n:=2) [va,vaInt f.venue];(iterate 3 exact rfl);exact List.cons_ne_nil _ _;(iterate 4 exact rfl);exact vaC_len;exact rfl;exact rfl;intro bz hz hlez hsl;refine ⟨hlez,QN,?_⟩)|(refine OpTo_relB QK ?_;intro h5 hle5 hcy;apply OpTo_call' (f:=126) (fs:=[]) (cs:=[.pointer (some ⟨_,0,none⟩)]) (Es0:=Es) (Fs:=[]);exact rfl;exact rfl;exact (List.append_nil _).symm;exact has126;exact put_c _ lid I Ix mI h5 (fun pre x post u Es2 h2 e5 hle2 hr hI => hround pre x post u Es2 h2 e5 (Le.trans (by first|exact Le.refl _|assumption|(repeat (first|assumption|(apply Le.trans;assumption)))) hle2) hr hI) _ _ _ _ (hsl.le (by first|exact Le.refl _|assumption|(repeat (first|assumption|(apply Le.trans;assumption))))) (Zip7.cons (hvva.le (by first|exact Le.refl _|assumption|(repeat (first|assumption|(apply Le.trans;assumption))))) (Zip7.cons (venc_int i2) Zip7.nil)) (by omega) _ hcy Es (mI _ _ _ _ (by first|exact Le.refl _|assumption|(repeat (first|assumption|(apply Le.trans;assumption)))) h0);intro v6 E6 h6 hle6 hp6;refine ⟨hle5.trans hle6,QN,?_⟩)|(apply OpTo_val;exact rfl;exact has68;exact num_c _ _;refine ⟨Le.refl _,QN,?_⟩)))|(apply GP_done;kernel_rfl;exact rfl)|(apply GO_cond;exact rfl;all_goals (intro hc;try simp only [hcS,reduceCtorEq] at hc;try (exfalso;omega))))
  all_goals (try (exfalso;omega))
  all_goals
    rw [List.append_nil]
    exact GO_end (rs:=[]) (vs:=[]) rfl rfl trivial hp6
theorem el6_c (h : Ro) (s : Fsh) (f : Fct) (hf : FAt h s f) (hs : FSm1 f) (bx : Nat) (hb : CellsAt h ⟨bx,0,none⟩ (factC s f)) (e : f.kind = 6) (i1 : I64 f.mP) (i2 : I64 f.mTo) : SeqR Tryz.prog 125 [.pointer (some ⟨bx,0,none⟩)] ER (elemsB f) h:=by
  have hxs : elemsB f = [bInt f.mP,bInt f.mTo]:=by unfold elemsB;rw [e];rfl
  rw [hxs]
  intro lid I Ix mI mIx hround Es h1 hle h0
  refine Fn_intro (args:=[_,_]) ts_ok Go.Proofs.Tryz.func125 rfl rfl fun w0 X0 => ?_
  have hb1:=hb.le hle
  have hf1:=hf.le hle
  obtain ⟨n1,n2,n3,n4,n5,n6⟩:=hf.small1 hs
  repeat' (first|apply GO_seq|apply GO_inBlock|apply GO_block|apply GO_region|apply GOl_nil|(apply GOl_pv;(iterate 3 exact rfl))|(apply GOl_ov;exact rfl;exact rfl;(first|(apply OV_load;exact rfl;first|exact Lv_ro rfl (by assumption) rfl|exact Lv_roF rfl (by assumption) rfl|exact Lv_roF2 rfl (by assumption) rfl|exact Lv_roF3 rfl (by assumption) rfl));exact QA)|(apply GOl_to;(iterate 3 exact rfl);(first|(apply OpTo_box;exact rfl;intro b;skip)))|(apply GO_drawp (n:=17) [0,1,2,3,4,5,6,7,8,9,10] [(0,0),(1,0),(2,0),(3,0),(5,0),(6,0),(7,0),(4,1),(8,1),(9,1),(10,1)];kernel_rfl)|(apply GP_pv;exact rfl;kernel_rfl;(iterate 3 exact rfl))|(apply GP_ov;exact rfl;kernel_rfl;exact rfl;exact rfl;(first|(apply OV_load;exact rfl;first|exact Lv_ro rfl (by assumption) rfl|exact Lv_roF rfl (by assumption) rfl|exact Lv_roF2 rfl (by assumption) rfl|exact Lv_roF3 rfl (by assumption) rfl));exact QA)|(apply GP_real;exact rfl;kernel_rfl;(iterate 3 exact rfl);(first|(apply OpTo_buildSliceS (enc:=vaC) (n:=2) [vaInt f.mP,vaInt f.mTo];(iterate 3 exact rfl);exact List.cons_ne_nil _ _;(iterate 4 exact rfl);exact vaC_len;exact rfl;exact rfl;intro bz hz hlez hsl;refine ⟨hlez,QN,?_⟩)|(refine OpTo_relB QK ?_;intro h5 hle5 hcy;apply OpTo_call' (f:=126) (fs:=[]) (cs:=[.pointer (some ⟨_,0,none⟩)]) (Es0:=Es) (Fs:=[]);exact rfl;exact rfl;exact (List.append_nil _).symm;exact has126;exact put_c _ lid I Ix mI h5 (fun pre x post u Es2 h2 e5 hle2 hr hI => hround pre x post u Es2 h2 e5 (Le.trans (by first|exact Le.refl _|assumption|(repeat (first|assumption|(apply Le.trans;assumption)))) hle2) hr hI) _ _ _ _ (hsl.le (by first|exact Le.refl _|assumption|(repeat (first|assumption|(apply Le.trans;assumption))))) (Zip7.cons (venc_int i1) (Zip7.cons (venc_int i2) Zip7.nil)) (by omega) _ hcy Es (mI _ _ _ _ (by first|exact Le.refl _|assumption|(repeat (first|assumption|(apply Le.trans;assumption)))) h0);intro v6 E6 h6 hle6 hp6;refine ⟨hle5.trans hle6,QN,?_⟩)|(apply OpTo_val;exact rfl;exact has68;exact num_c _ _;refine ⟨Le.refl _,QN,?_⟩)))|(apply GP_done;kernel_rfl;exact rfl)|(apply GO_cond;exact rfl;all_goals (intro hc;try simp only [hcS,reduceCtorEq] at hc;try (exfalso;omega))))
  all_goals (try (exfalso;omega))
  all_goals
    rw [List.append_nil]
    exact GO_end (rs:=[]) (vs:=[]) rfl rfl trivial hp6
theorem el7_c (h : Ro) (s : Fsh) (f : Fct) (hf : FAt h s f) (hs : FSm1 f) (bx : Nat) (hb : CellsAt h ⟨bx,0,none⟩ (factC s f)) (e : f.kind = 7) (i1 : I64 f.lS) (i2 : I64 f.lC) (i3 : ∀ x ∈ f.lO,I64 x) : SeqR Tryz.prog 125 [.pointer (some ⟨bx,0,none⟩)] ER (elemsB f) h:=by
  have hxs : elemsB f = [bInt f.lS,bInt f.lC,bNums f.lO]:=by unfold elemsB;rw [e];rfl
  rw [hxs]
  intro lid I Ix mI mIx hround Es h1 hle h0
  refine Fn_intro (args:=[_,_]) ts_ok Go.Proofs.Tryz.func125 rfl rfl fun w0 X0 => ?_
  have hb1:=hb.le hle
  have hf1:=hf.le hle
  obtain ⟨n1,n2,n3,n4,n5,n6⟩:=hf.small1 hs
  repeat' (first|apply GO_seq|apply GO_inBlock|apply GO_block|apply GO_region|apply GOl_nil|(apply GOl_pv;(iterate 3 exact rfl))|(apply GOl_ov;exact rfl;exact rfl;(first|(apply OV_load;exact rfl;first|exact Lv_ro rfl (by assumption) rfl|exact Lv_roF rfl (by assumption) rfl|exact Lv_roF2 rfl (by assumption) rfl|exact Lv_roF3 rfl (by assumption) rfl));exact QA)|(apply GOl_to;(iterate 3 exact rfl);(first|(apply OpTo_box;exact rfl;intro b;skip)))|(apply GO_drawp (n:=19) [0,1,2,3,4,5,6,7,8,9,10,11,12,13,14] [(0,0),(1,0),(2,0),(3,0),(5,0),(6,0),(7,0),(9,0),(10,0),(11,0),(4,1),(8,1),(12,1),(13,1),(14,1)];kernel_rfl)|(apply GP_pv;exact rfl;kernel_rfl;(iterate 3 exact rfl))|(apply GP_ov;exact rfl;kernel_rfl;exact rfl;exact rfl;(first|(apply OV_load;exact rfl;first|exact Lv_ro rfl (by assumption) rfl|exact Lv_roF rfl (by assumption) rfl|exact Lv_roF2 rfl (by assumption) rfl|exact Lv_roF3 rfl (by assumption) rfl));exact QA)|(apply GP_real;exact rfl;kernel_rfl;(iterate 3 exact rfl);(first|(apply OpTo_res;exact rfl;exact has127;exact numsV_c (d:=2) _ _ _ _ f.lO (hf1.lo.le (by first|exact Le.refl _|assumption|(repeat (first|assumption|(apply Le.trans;assumption))))) (by omega) i3;rintro wva hva hleva ⟨va,rfl,hvva⟩;refine ⟨hleva,QN,?_⟩)|(apply OpTo_buildSliceS (enc:=vaC) (n:=3) [vaInt f.lS,vaInt f.lC,va];(iterate 3 exact rfl);exact List.cons_ne_nil _ _;(iterate 4 exact rfl);exact vaC_len;exact rfl;exact rfl;intro bz hz hlez hsl;refine ⟨hlez,QN,?_⟩)|(refine OpTo_relB QK ?_;intro h5 hle5 hcy;apply OpTo_call' (f:=126) (fs:=[]) (cs:=[.pointer (some ⟨_,0,none⟩)]) (Es0:=Es) (Fs:=[]);exact rfl;exact rfl;exact (List.append_nil _).symm;exact has126;exact put_c _ lid I Ix mI h5 (fun pre x post u Es2 h2 e5 hle2 hr hI => hround pre x post u Es2 h2 e5 (Le.trans (by first|exact Le.refl _|assumption|(repeat (first|assumption|(apply Le.trans;assumption)))) hle2) hr hI) _ _ _ _ (hsl.le (by first|exact Le.refl _|assumption|(repeat (first|assumption|(apply Le.trans;assumption))))) (Zip7.cons (venc_int i1) (Zip7.cons (venc_int i2) (Zip7.cons (hvva.le (by first|exact Le.refl _|assumption|(repeat (first|assumption|(apply Le.trans;assumption))))) Zip7.nil))) (by omega) _ hcy Es (mI _ _ _ _ (by first|exact Le.refl _|assumption|(repeat (first|assumption|(apply Le.trans;assumption)))) h0);intro v6 E6 h6 hle6 hp6;refine ⟨hle5.trans hle6,QN,?_⟩)|(apply OpTo_val;exact rfl;exact has68;exact num_c _ _;refine ⟨Le.refl _,QN,?_⟩)))|(apply GP_done;kernel_rfl;exact rfl)|(apply GO_cond;exact rfl;all_goals (intro hc;try simp only [hcS,reduceCtorEq] at hc;try (exfalso;omega))))
  all_goals (try (exfalso;omega))
  all_goals
    rw [List.append_nil]
    exact GO_end (rs:=[]) (vs:=[]) rfl rfl trivial hp6
theorem range_getD : ∀ (v : List UInt8),v = (List.range v.length).map (fun i => v.getD i 0):=fun v => by
  apply List.ext_getElem (by simp)
  intro i h1 h2
  simp [List.getD,List.getElem?_eq_getElem h1]
theorem voidC_eq (v : List UInt8) (hv : v.length = 32) : voidC v = v.flatMap encB:=by
  have e : voidC v = (List.range 32).map (vB v):=rfl
  rw [e,encB_cells]
  conv => rhs;rw [range_getD v,hv,List.map_map]
  rfl
theorem el5_c (h : Ro) (s : Fsh) (f : Fct) (hf : FAt h s f) (hs : FSm1 f) (bx : Nat) (hb : CellsAt h ⟨bx,0,none⟩ (factC s f)) (e : f.kind = 5) (i1 : ∀ x ∈ [f.aCase,f.aInst,if f.aSusp then 1 else 0],I64 x) : SeqR Tryz.prog 125 [.pointer (some ⟨bx,0,none⟩)] ER (elemsB f) h:=by
  have hxs : elemsB f = [bInt f.aCase,bInt f.aInst,bInt (if f.aSusp then 1 else 0)]:=by unfold elemsB;rw [e];rfl
  rw [hxs]
  intro lid I Ix mI mIx hround Es h1 hle h0
  refine Fn_intro (args:=[_,_]) ts_ok Go.Proofs.Tryz.func125 rfl rfl fun w0 X0 => ?_
  have hb1:=hb.le hle
  have hf1:=hf.le hle
  obtain ⟨n1,n2,n3,n4,n5,n6⟩:=hf.small1 hs
  repeat' (first|apply GO_seq|apply GO_inBlock|apply GO_block|apply GO_region|apply GOl_nil|(apply GOl_pv;(iterate 3 exact rfl))|(apply GOl_ov;exact rfl;exact rfl;(first|(apply OV_load;exact rfl;first|exact Lv_ro rfl (by assumption) rfl|exact Lv_roF rfl (by assumption) rfl|exact Lv_roF2 rfl (by assumption) rfl|exact Lv_roF3 rfl (by assumption) rfl));exact QA)|(apply GOl_to;(iterate 3 exact rfl);(first|(apply OpTo_box;exact rfl;intro b;skip)))|(apply GO_drawp (n:=15) [0,1,2,3,4,5,6,7,8,9,10,11,12,13,14] [(0,0),(1,0),(2,0),(3,0),(4,0),(5,0),(6,0),(7,0),(8,0),(9,0),(10,1),(11,1),(12,1),(13,0),(14,1)];kernel_rfl)|(apply GP_pv;exact rfl;kernel_rfl;(iterate 3 exact rfl))|(apply GP_ov;exact rfl;kernel_rfl;exact rfl;exact rfl;(first|(apply OV_load;exact rfl;first|exact Lv_ro rfl (by assumption) rfl|exact Lv_roF rfl (by assumption) rfl|exact Lv_roF2 rfl (by assumption) rfl|exact Lv_roF3 rfl (by assumption) rfl));exact QA)|(apply GP_real;exact rfl;kernel_rfl;(iterate 3 exact rfl);(first|(apply OpTo_buildSliceR (e:=3) (cs:=[f.aCase,f.aInst,if f.aSusp then 1 else 0].map fun i => .int .i64 i);(iterate 3 exact rfl);exact List.cons_ne_nil _ _;(iterate 4 exact rfl);intro bi hi hlei hcs1;refine ⟨hlei,QN,?_⟩)|(apply OpTo_res;exact rfl;exact has127;exact numsR_c _ _ 3 3 [f.aCase,f.aInst,if f.aSusp then 1 else 0] (SlOf_ints (hcs1.le (by first|exact Le.refl _|assumption|(repeat (first|assumption|(apply Le.trans;assumption)))))) (by omega);rintro wn hn hlen ⟨An,cn,rfl,hsl⟩;refine ⟨hlen,QN,?_⟩)|(refine OpTo_relB QK ?_;intro h5 hle5 hcy;apply OpTo_call' (f:=126) (fs:=[]) (cs:=[.pointer (some ⟨_,0,none⟩)]) (Es0:=Es) (Fs:=[]);exact rfl;exact rfl;exact (List.append_nil _).symm;exact has126;exact put_c _ lid I Ix mI h5 (fun pre x post u Es2 h2 e5 hle2 hr hI => hround pre x post u Es2 h2 e5 (Le.trans (by first|exact Le.refl _|assumption|(repeat (first|assumption|(apply Le.trans;assumption)))) hle2) hr hI) _ _ _ ([f.aCase,f.aInst,if f.aSusp then 1 else 0].map vaInt) (hsl.le (by first|exact Le.refl _|assumption|(repeat (first|assumption|(apply Le.trans;assumption))))) (zip_ints i1) (by simp) _ hcy Es (mI _ _ _ _ (by first|exact Le.refl _|assumption|(repeat (first|assumption|(apply Le.trans;assumption)))) h0);intro v6 E6 h6 hle6 hp6;refine ⟨(by repeat (first|assumption|(apply Le.trans;assumption))),QN,?_⟩)|(apply OpTo_val;exact rfl;exact has131;exact truth_c _ _;refine ⟨Le.refl _,QN,?_⟩)))|(apply GP_done;kernel_rfl;exact rfl)|(apply GO_cond;exact rfl;all_goals (intro hc;try simp only [hcS,reduceCtorEq] at hc;try (exfalso;omega))))
  all_goals (try (exfalso;omega))
  all_goals
    rw [List.append_nil]
    exact GO_end (rs:=[]) (vs:=[]) rfl rfl trivial hp6
theorem el8_c (h : Ro) (s : Fsh) (f : Fct) (hf : FAt h s f) (hs : FSm1 f) (bx : Nat) (hb : CellsAt h ⟨bx,0,none⟩ (factC s f)) (e : f.kind = 8)  : SeqR Tryz.prog 125 [.pointer (some ⟨bx,0,none⟩)] ER (elemsB f) h:=by
  have hxs : elemsB f = [bText f.void]:=by unfold elemsB;rw [e];rfl
  rw [hxs]
  intro lid I Ix mI mIx hround Es h1 hle h0
  refine Fn_intro (args:=[_,_]) ts_ok Go.Proofs.Tryz.func125 rfl rfl fun w0 X0 => ?_
  have hb1:=hb.le hle
  have hf1:=hf.le hle
  have hvs : SlOf encB 1 h1 (some ⟨bx,50,none⟩) 32 f.void:=SlOf.of_flat (fun _ => rfl) hf.void (by
    have:=hb1.shift 50
    rw [add_off,Nat.zero_add] at this
    rw [← voidC_eq f.void hf.void];exact this)
  repeat' (first|apply GO_seq|apply GO_inBlock|apply GO_block|apply GO_region|apply GOl_nil|(apply GOl_pv;(iterate 3 exact rfl))|(apply GOl_ov;exact rfl;exact rfl;(first|(apply OV_sliceAll;(iterate 4 exact rfl))|(apply OV_strOf (s:=f.void);(iterate 7 exact rfl);exact hvs.le (by first|exact Le.refl _|assumption|(repeat (first|assumption|(apply Le.trans;assumption)))))|(apply OV_load;exact rfl;first|exact Lv_ro rfl (by assumption) rfl|exact Lv_roF rfl (by assumption) rfl|exact Lv_roF2 rfl (by assumption) rfl|exact Lv_roF3 rfl (by assumption) rfl));exact QA)|(apply GOl_to;(iterate 3 exact rfl);(first|(apply OpTo_box;exact rfl;intro b;skip)|(apply OpTo_buildSliceS (enc:=vaC) (n:=1) [vaText f.void];(iterate 3 exact rfl);exact List.cons_ne_nil _ _;(iterate 4 exact rfl);exact vaC_len;exact rfl;exact rfl;intro bz hz hlez hsl;skip)|(refine OpTo_relB QK ?_;intro h5 hle5 hcy;apply OpTo_call' (f:=126) (fs:=[]) (cs:=[.pointer (some ⟨_,0,none⟩)]) (Es0:=Es) (Fs:=[]);exact rfl;exact rfl;exact (List.append_nil _).symm;exact has126;exact put_c _ lid I Ix mI h5 (fun pre x post u Es2 h2 e5 hle2 hr hI => hround pre x post u Es2 h2 e5 (Le.trans (by first|exact Le.refl _|assumption|(repeat (first|assumption|(apply Le.trans;assumption)))) hle2) hr hI) _ _ _ [vaText f.void] (hsl.le (by first|exact Le.refl _|assumption|(repeat (first|assumption|(apply Le.trans;assumption))))) (Zip7.cons (venc_text) Zip7.nil) (by simp) _ hcy Es (mI _ _ _ _ (by first|exact Le.refl _|assumption|(repeat (first|assumption|(apply Le.trans;assumption)))) h0);intro v6 E6 h6 hle6 hp6;skip)|(apply OpTo_val;exact rfl;exact has128;exact textV_c _ _;skip)))|(apply GO_cond;exact rfl;all_goals (intro hc;try simp only [hcS,reduceCtorEq] at hc;try (exfalso;omega))))
  all_goals (try (exfalso;omega))
  all_goals
    rw [List.append_nil]
    exact GO_end (rs:=[]) (vs:=[]) rfl rfl trivial hp6
theorem el3_c (h : Ro) (s : Fsh) (f : Fct) (hf : FAt h s f) (hs : FSm1 f) (bx : Nat) (hb : CellsAt h ⟨bx,0,none⟩ (factC s f)) (e : f.kind = 3) (i1 : GameI f.sh.g) (i2 : ∀ x ∈ [f.sh.ref,f.sh.hg,f.sh.ag,f.sh.hp,f.sh.ap],I64 x) (i3 : ∀ x ∈ f.sh.hs,I64 x) (i4 : ∀ x ∈ f.sh.asn,I64 x) (i5 : ∀ c ∈ f.sh.hc,I64 c.p) (i6 : ∀ c ∈ f.sh.ac,I64 c.p) : SeqR Tryz.prog 125 [.pointer (some ⟨bx,0,none⟩)] ER (elemsB f) h:=by
  have hxs : elemsB f = [bNums (gameL f.sh.g),bInt f.sh.ref,bInt f.sh.hg,bInt f.sh.ag,bInt f.sh.hp,bInt f.sh.ap,bNums f.sh.hs,bNums f.sh.asn,bCards f.sh.hc,bCards f.sh.ac]:=by unfold elemsB;rw [e];rfl
  rw [hxs]
  intro lid I Ix mI mIx hround Es h1 hle h0
  refine Fn_intro (args:=[_,_]) ts_ok Go.Proofs.Tryz.func125 rfl rfl fun w0 X0 => ?_
  have hb1:=hb.le hle
  have hf1:=hf.le hle
  obtain ⟨n1,n2,n3,n4,n5,n6⟩:=hf.small1 hs
  repeat' (first|apply GO_seq|apply GO_inBlock|apply GO_block|apply GO_region|apply GOl_nil|(apply GOl_pv;(iterate 3 exact rfl))|(apply GOl_ov;exact rfl;exact rfl;(first|(apply OV_load;exact rfl;first|exact Lv_ro rfl (by assumption) rfl|exact Lv_roF rfl (by assumption) rfl|exact Lv_roF2 rfl (by assumption) rfl|exact Lv_roF3 rfl (by assumption) rfl));exact QA)|(apply GOl_to;(iterate 3 exact rfl);(first|(apply OpTo_store;(iterate 3 exact rfl);exact QR;(iterate 3 exact rfl);skip)|(apply OpTo_box;exact rfl;intro b;skip)|(apply OpTo_alloc;exact rfl;intro b;skip)))|(apply GO_drawp (n:=9) [0,1,2,3,4,5,6,7,8,9,10,11,12,13,14,15,16,17,18,19,20,21,22,23,24,25,26,27,28,29,30,31,32,33] [(0,0),(1,0),(2,0),(5,0),(6,0),(7,0),(8,0),(9,0),(10,0),(11,0),(12,0),(13,0),(14,0),(19,0),(20,0),(22,0),(23,0),(25,0),(26,0),(28,0),(29,0),(3,2),(35,15),(4,2),(11,15),(15,1),(16,1),(17,0),(18,1),(21,1),(24,1),(27,1),(30,1),(31,1),(32,1),(33,1),(4,2),(10,16),(16,1),(17,0),(18,1),(21,1),(24,1),(27,1),(30,1),(31,1),(32,1),(33,1),(17,0),(4,1),(18,1),(21,1),(24,1),(27,1),(30,1),(31,1),(32,1),(33,1),(3,1),(4,2),(10,16),(16,1),(17,0),(18,1),(21,1),(24,1),(27,1),(30,1),(31,1),(32,1),(33,1),(17,0),(4,1),(18,1),(21,1),(24,1),(27,1),(30,1),(31,1),(32,1),(33,1)];kernel_rfl)|(apply GP_pv;exact rfl;kernel_rfl;(iterate 3 exact rfl))|(apply GP_loadB;exact rfl;kernel_rfl;(iterate 3 exact rfl);exact QM;exact rfl;exact rfl)|(apply GP_real;exact rfl;kernel_rfl;(iterate 3 exact rfl);(first|(apply OpTo_res;exact rfl;exact has129;exact gameV_c (d:=2) _ f.sh.g i1;rintro wvg hvg hlevg ⟨vg,rfl,hvvg⟩;refine ⟨hlevg,QN,?_⟩)|(apply OpTo_buildSliceR (e:=3) (cs:=[f.sh.ref,f.sh.hg,f.sh.ag,f.sh.hp,f.sh.ap].map fun i => .int .i64 i);(iterate 3 exact rfl);exact List.cons_ne_nil _ _;(iterate 4 exact rfl);intro bi hi hlei hcs1;refine ⟨hlei,QN,?_⟩)|(apply OpTo_res;exact rfl;exact has127;exact numsR_c _ _ 5 5 [f.sh.ref,f.sh.hg,f.sh.ag,f.sh.hp,f.sh.ap] (SlOf_ints (hcs1.le (by first|exact Le.refl _|assumption|(repeat (first|assumption|(apply Le.trans;assumption)))))) (by omega);rintro wn hn hlen ⟨An,cn,rfl,hsn⟩;refine ⟨hlen,QN,?_⟩)|(apply OpTo_res;exact rfl;exact has127;exact numsV_c (d:=2) _ _ _ _ f.sh.hs (hf1.sh.hs.le (by first|exact Le.refl _|assumption|(repeat (first|assumption|(apply Le.trans;assumption))))) (by omega) i3;rintro wp hp hlep ⟨vp,rfl,hvp⟩;refine ⟨hlep,QN,?_⟩)|(apply OpTo_res;exact rfl;exact has127;exact numsV_c (d:=2) _ _ _ _ f.sh.asn (hf1.sh.asn.le (by first|exact Le.refl _|assumption|(repeat (first|assumption|(apply Le.trans;assumption))))) (by omega) i4;rintro wq hq hleq ⟨vq,rfl,hvq⟩;refine ⟨hleq,QN,?_⟩)|(apply OpTo_res;exact rfl;exact has130;exact shown_c (d:=1) _ _ _ _ f.sh.hc (hf1.sh.hc.le (by first|exact Le.refl _|assumption|(repeat (first|assumption|(apply Le.trans;assumption))))) (by omega) i5;rintro wr hr hler ⟨vr,rfl,hvr⟩;refine ⟨hler,QN,?_⟩)|(apply OpTo_res;exact rfl;exact has130;exact shown_c (d:=1) _ _ _ _ f.sh.ac (hf1.sh.ac.le (by first|exact Le.refl _|assumption|(repeat (first|assumption|(apply Le.trans;assumption))))) (by omega) i6;rintro wt ht hlet ⟨vt,rfl,hvt⟩;refine ⟨hlet,QN,?_⟩)|(apply OpTo_buildSliceS (enc:=vaC) (n:=4) [vp,vq,vr,vt];(iterate 3 exact rfl);exact List.cons_ne_nil _ _;(iterate 4 exact rfl);exact vaC_len;exact rfl;exact rfl;intro bz hz hlez hs4;refine ⟨hlez,QN,?_⟩)|(apply OpTo_buildSliceO (n:=1);(iterate 3 exact rfl);exact List.cons_ne_nil _ _;(iterate 6 exact rfl);intro bo;refine ⟨Le.refl _,QN,?_⟩)|(apply OpTo_appendS (enc:=vaC) (xs:=[vg]) (ys:=[f.sh.ref,f.sh.hg,f.sh.ag,f.sh.hp,f.sh.ap].map vaInt);(iterate 7 exact rfl);exact hsn.le (by first|exact Le.refl _|assumption|(repeat (first|assumption|(apply Le.trans;assumption))));exact vaC_len;exact vaC_one;intro v1;exact QR;(first|omega|simp [vaList]);exact rfl;intro A2 c2;refine ⟨Le.refl _,QN,?_⟩)|(apply OpTo_appendS (enc:=vaC) (xs:=[vg] ++ [f.sh.ref,f.sh.hg,f.sh.ag,f.sh.hp,f.sh.ap].map vaInt) (ys:=[vp,vq,vr,vt]);(iterate 7 exact rfl);exact hs4.le (by first|exact Le.refl _|assumption|(repeat (first|assumption|(apply Le.trans;assumption))));exact vaC_len;exact vaC_one;intro v1;exact QR;(first|omega|simp [vaList]);exact rfl;intro A2 c2;refine ⟨Le.refl _,QN,?_⟩)|(refine OpTo_relS (enc:=vaC) (xs:=([vg] ++ [f.sh.ref,f.sh.hg,f.sh.ag,f.sh.hp,f.sh.ap].map vaInt ++ [vp,vq,vr,vt])) vaC_len rfl QK ?_;intro A7 c7 h7 hle7 e7 hnc7 hsl;injection e7 with e71 _ e73;subst e71;subst e73;refine OpTo_relB QK ?_;intro h8 hle8 _;refine OpTo_relB QK ?_;intro h5 hle5 hcy;apply OpTo_call' (f:=126) (fs:=[]) (cs:=[.pointer (some ⟨_,0,none⟩)]) (Es0:=Es) (Fs:=[]);exact rfl;exact rfl;exact (List.append_nil _).symm;exact has126;exact put_c _ lid I Ix mI h5 (fun pre x post u Es2 h2 e5 hle2 hr hI => hround pre x post u Es2 h2 e5 (Le.trans (by first|exact Le.refl _|assumption|(repeat (first|assumption|(apply Le.trans;assumption)))) hle2) hr hI) _ _ _ ([vg] ++ [f.sh.ref,f.sh.hg,f.sh.ag,f.sh.hp,f.sh.ap].map vaInt ++ [vp,vq,vr,vt]) (hsl.le (by first|exact Le.refl _|assumption|(repeat (first|assumption|(apply Le.trans;assumption))))) (Zip7.cons (hvvg.le (by first|exact Le.refl _|assumption|(repeat (first|assumption|(apply Le.trans;assumption))))) (Zip7.cons (venc_int (i2 _ (by simp))) (Zip7.cons (venc_int (i2 _ (by simp))) (Zip7.cons (venc_int (i2 _ (by simp))) (Zip7.cons (venc_int (i2 _ (by simp))) (Zip7.cons (venc_int (i2 _ (by simp))) (Zip7.cons (hvp.le (by first|exact Le.refl _|assumption|(repeat (first|assumption|(apply Le.trans;assumption))))) (Zip7.cons (hvq.le (by first|exact Le.refl _|assumption|(repeat (first|assumption|(apply Le.trans;assumption))))) (Zip7.cons (hvr.le (by first|exact Le.refl _|assumption|(repeat (first|assumption|(apply Le.trans;assumption))))) (Zip7.cons (hvt.le (by first|exact Le.refl _|assumption|(repeat (first|assumption|(apply Le.trans;assumption))))) Zip7.nil)))))))))) (by simp) _ hcy Es (mI _ _ _ _ (by first|exact Le.refl _|assumption|(repeat (first|assumption|(apply Le.trans;assumption)))) h0);intro v6 E6 h6 hle6 hp6;refine ⟨(by repeat (first|assumption|(apply Le.trans;assumption))),QN,?_⟩)))|(apply GP_two;kernel_rfl;exact rfl;exact rfl)|(apply RealP_intro;(iterate 4 exact rfl);(first|(apply OpTo_res;exact rfl;exact has129;exact gameV_c (d:=2) _ f.sh.g i1;rintro wvg hvg hlevg ⟨vg,rfl,hvvg⟩;refine ⟨hlevg,QN,?_⟩)|(apply OpTo_buildSliceR (e:=3) (cs:=[f.sh.ref,f.sh.hg,f.sh.ag,f.sh.hp,f.sh.ap].map fun i => .int .i64 i);(iterate 3 exact rfl);exact List.cons_ne_nil _ _;(iterate 4 exact rfl);intro bi hi hlei hcs1;refine ⟨hlei,QN,?_⟩)|(apply OpTo_res;exact rfl;exact has127;exact numsR_c _ _ 5 5 [f.sh.ref,f.sh.hg,f.sh.ag,f.sh.hp,f.sh.ap] (SlOf_ints (hcs1.le (by first|exact Le.refl _|assumption|(repeat (first|assumption|(apply Le.trans;assumption)))))) (by omega);rintro wn hn hlen ⟨An,cn,rfl,hsn⟩;refine ⟨hlen,QN,?_⟩)|(apply OpTo_buildSliceO (n:=1);(iterate 3 exact rfl);exact List.cons_ne_nil _ _;(iterate 6 exact rfl);intro bo;refine ⟨Le.refl _,QN,?_⟩)))|(apply GP_done;kernel_rfl;exact rfl)|(apply GO_cond;exact rfl;all_goals (intro hc;try simp only [hcS,reduceCtorEq] at hc;try (exfalso;omega))))
  all_goals (try (exfalso;omega))
  all_goals
    rw [List.append_nil]
    exact GO_end (rs:=[]) (vs:=[]) rfl rfl trivial hp6
theorem el4_c (h : Ro) (s : Fsh) (f : Fct) (hf : FAt h s f) (hs : FSm1 f) (bx : Nat) (hb : CellsAt h ⟨bx,0,none⟩ (factC s f)) (e : f.kind = 4) (i1 : GameI f.ru.g) (i2 : ∀ x ∈ [f.ru.case,f.ru.inst,f.ru.kind],I64 x) (i3 : ∀ x ∈ [f.ru.club,f.ru.player,f.ru.season,f.ru.comp,f.ru.points,f.ru.amount,f.ru.hg,f.ru.ag,f.ru.lo,f.ru.hi],I64 x) : SeqR Tryz.prog 125 [.pointer (some ⟨bx,0,none⟩)] ER (elemsB f) h:=by
  have hxs : elemsB f = [bInt f.ru.case,bInt f.ru.inst,bInt f.ru.kind,bNums (gameL f.ru.g),bInt f.ru.club,bInt f.ru.player,bInt f.ru.season,bInt f.ru.comp,bInt f.ru.points,bInt f.ru.amount,bInt f.ru.hg,bInt f.ru.ag,bInt f.ru.lo,bInt f.ru.hi]:=by unfold elemsB;rw [e];rfl
  rw [hxs]
  intro lid I Ix mI mIx hround Es h1 hle h0
  refine Fn_intro (args:=[_,_]) ts_ok Go.Proofs.Tryz.func125 rfl rfl fun w0 X0 => ?_
  have hb1:=hb.le hle
  have hf1:=hf.le hle
  obtain ⟨n1,n2,n3,n4,n5,n6⟩:=hf.small1 hs
  repeat' (first|apply GO_seq|apply GO_inBlock|apply GO_block|apply GO_region|apply GOl_nil|(apply GOl_pv;(iterate 3 exact rfl))|(apply GOl_load;exact rfl;exact Ld_blk rfl QM rfl;exact rfl;exact rfl)|(apply GOl_ov;exact rfl;exact rfl;(first|(apply OV_load;exact rfl;first|exact Lv_ro rfl (by assumption) rfl|exact Lv_roF rfl (by assumption) rfl|exact Lv_roF2 rfl (by assumption) rfl|exact Lv_roF3 rfl (by assumption) rfl));exact QA)|(apply GOl_to;(iterate 3 exact rfl);(first|(apply OpTo_store;(iterate 3 exact rfl);exact QR;(iterate 3 exact rfl);skip)|(apply OpTo_box;exact rfl;intro b;skip)|(apply OpTo_alloc;exact rfl;intro b;skip)|(apply OpTo_buildSliceR (e:=3) (cs:=[f.ru.club,f.ru.player,f.ru.season,f.ru.comp,f.ru.points,f.ru.amount,f.ru.hg,f.ru.ag,f.ru.lo,f.ru.hi].map fun i => .int .i64 i);(iterate 3 exact rfl);exact List.cons_ne_nil _ _;(iterate 4 exact rfl);intro bi hi hlei hcs2;skip)|(apply OpTo_res;exact rfl;exact has127;exact numsR_c _ _ 10 10 [f.ru.club,f.ru.player,f.ru.season,f.ru.comp,f.ru.points,f.ru.amount,f.ru.hg,f.ru.ag,f.ru.lo,f.ru.hi] (SlOf_ints (hcs2.le (by first|exact Le.refl _|assumption|(repeat (first|assumption|(apply Le.trans;assumption)))))) (by omega);rintro wm hm hlem ⟨Am,cm,rfl,hsm⟩;skip)|(apply OpTo_appendS (enc:=vaC) (xs:=[f.ru.case,f.ru.inst,f.ru.kind].map vaInt ++ [vg]) (ys:=[f.ru.club,f.ru.player,f.ru.season,f.ru.comp,f.ru.points,f.ru.amount,f.ru.hg,f.ru.ag,f.ru.lo,f.ru.hi].map vaInt);(iterate 7 exact rfl);exact hsm.le (by first|exact Le.refl _|assumption|(repeat (first|assumption|(apply Le.trans;assumption))));exact vaC_len;exact vaC_one;intro v1;exact QR;(first|omega|simp [vaList]);exact rfl;intro A2 c2;skip)|(refine OpTo_relS (enc:=vaC) (xs:=([f.ru.case,f.ru.inst,f.ru.kind].map vaInt ++ [vg] ++ [f.ru.club,f.ru.player,f.ru.season,f.ru.comp,f.ru.points,f.ru.amount,f.ru.hg,f.ru.ag,f.ru.lo,f.ru.hi].map vaInt)) vaC_len rfl QK ?_;intro A7 c7 h7 hle7 e7 hnc7 hsl;injection e7 with e71 _ e73;subst e71;subst e73;refine OpTo_relB QK ?_;intro h8 hle8 _;refine OpTo_relB QK ?_;intro h5 hle5 hcy;apply OpTo_call' (f:=126) (fs:=[]) (cs:=[.pointer (some ⟨_,0,none⟩)]) (Es0:=Es) (Fs:=[]);exact rfl;exact rfl;exact (List.append_nil _).symm;exact has126;exact put_c _ lid I Ix mI h5 (fun pre x post u Es2 h2 e5 hle2 hr hI => hround pre x post u Es2 h2 e5 (Le.trans (by first|exact Le.refl _|assumption|(repeat (first|assumption|(apply Le.trans;assumption)))) hle2) hr hI) _ _ _ ([f.ru.case,f.ru.inst,f.ru.kind].map vaInt ++ [vg] ++ [f.ru.club,f.ru.player,f.ru.season,f.ru.comp,f.ru.points,f.ru.amount,f.ru.hg,f.ru.ag,f.ru.lo,f.ru.hi].map vaInt) (hsl.le (by first|exact Le.refl _|assumption|(repeat (first|assumption|(apply Le.trans;assumption))))) (Zip7.cons (venc_int (i2 _ (by simp))) (Zip7.cons (venc_int (i2 _ (by simp))) (Zip7.cons (venc_int (i2 _ (by simp))) (Zip7.cons (hvvg.le (by first|exact Le.refl _|assumption|(repeat (first|assumption|(apply Le.trans;assumption))))) (Zip7.cons (venc_int (i3 _ (by simp))) (Zip7.cons (venc_int (i3 _ (by simp))) (Zip7.cons (venc_int (i3 _ (by simp))) (Zip7.cons (venc_int (i3 _ (by simp))) (Zip7.cons (venc_int (i3 _ (by simp))) (Zip7.cons (venc_int (i3 _ (by simp))) (Zip7.cons (venc_int (i3 _ (by simp))) (Zip7.cons (venc_int (i3 _ (by simp))) (Zip7.cons (venc_int (i3 _ (by simp))) (Zip7.cons (venc_int (i3 _ (by simp))) Zip7.nil)))))))))))))) (by simp) _ hcy Es (mI _ _ _ _ (by first|exact Le.refl _|assumption|(repeat (first|assumption|(apply Le.trans;assumption)))) h0);intro v6 E6 h6 hle6 hp6;skip)))|(apply GO_drawp (n:=12) [0,1,2,3,4,5,6,7,8,9,10,11,12,13,14] [(0,0),(1,0),(2,0),(3,0),(4,0),(5,0),(9,0),(10,0),(6,1),(7,1),(8,0),(11,1),(12,1),(13,1),(14,0)];kernel_rfl)|(apply GP_pv;exact rfl;kernel_rfl;(iterate 3 exact rfl))|(apply GP_loadB;exact rfl;kernel_rfl;(iterate 3 exact rfl);exact QM;exact rfl;exact rfl)|(apply GP_real;exact rfl;kernel_rfl;(iterate 3 exact rfl);(first|(apply OpTo_res;exact rfl;exact has129;exact gameV_c (d:=2) _ f.ru.g i1;rintro wvg hvg hlevg ⟨vg,rfl,hvvg⟩;refine ⟨hlevg,QN,?_⟩)|(apply OpTo_buildSliceR (e:=3) (cs:=[f.ru.case,f.ru.inst,f.ru.kind].map fun i => .int .i64 i);(iterate 3 exact rfl);exact List.cons_ne_nil _ _;(iterate 4 exact rfl);intro bi hi hlei hcs1;refine ⟨hlei,QN,?_⟩)|(apply OpTo_callP;exact rfl;exact has127;exact nums_c _ _ 3 3 [f.ru.case,f.ru.inst,f.ru.kind] (SlOf_ints (hcs1.le (by first|exact Le.refl _|assumption|(repeat (first|assumption|(apply Le.trans;assumption)))))) (by omega);exact QT;rintro wn En hn hlen ⟨An,cn,rfl,rfl⟩;refine ⟨hlen,QN,?_⟩)|(apply OpTo_buildSliceS (enc:=vaC) (n:=1) [vg];(iterate 3 exact rfl);exact List.cons_ne_nil _ _;(iterate 4 exact rfl);exact vaC_len;exact rfl;exact rfl;intro bz hz hlez hs4;refine ⟨hlez,QN,?_⟩)|(apply OpTo_appendS (enc:=vaC) (xs:=[f.ru.case,f.ru.inst,f.ru.kind].map vaInt) (ys:=[vg]);(iterate 7 exact rfl);exact hs4.le (by first|exact Le.refl _|assumption|(repeat (first|assumption|(apply Le.trans;assumption))));exact vaC_len;exact vaC_one;intro v1;exact QR;(first|omega|simp [vaList]);exact rfl;intro A2 c2;refine ⟨Le.refl _,QN,?_⟩)))|(apply GP_done;kernel_rfl;exact rfl)|(apply GO_cond;exact rfl;all_goals (intro hc;try simp only [hcS,reduceCtorEq] at hc;try (exfalso;omega))))
  all_goals (try (exfalso;omega))
  all_goals
    rw [List.append_nil]
    exact GO_end (rs:=[]) (vs:=[]) rfl rfl trivial hp6
end Go.Hw
set_option linter.unusedVariables false
set_option linter.unusedSimpArgs false
set_option maxRecDepth 100000
set_option maxHeartbeats 4000000
namespace Go.Hw
open Go
attribute [local irreducible] GO GOl GDp Val Fn Res CellsAt ValE Blk OwnS MapA OwnPf Has Yl
open Go.Proofs (Tryz.prog)
theorem elems_c (h : Ro) (s : Fsh) (f : Fct) (hf : FAt h s f) (hs : FSm f) (bx : Nat) (hb : CellsAt h ⟨bx,0,none⟩ (factC s f)) (hok : FctOk f) : SeqR Tryz.prog 125 [.pointer (some ⟨bx,0,none⟩)] ER (elemsB f) h:=by
  have hs:=hok.sm1
  have hco:=hok.2.2.1
  have hk : 1 ≤ f.kind ∧ f.kind ≤ 8:=by
    refine Classical.byContradiction fun hk => (fct_none f hk).2 hco
  have mx : ∀ {n m : Int},Bel n m → m ≤ 1000000 → I64 n:=fun h1 h2 => bel_i h1 (by omega)
  have : f.kind = 1 ∨ f.kind = 2 ∨ f.kind = 3 ∨ f.kind = 4 ∨ f.kind = 5 ∨ f.kind = 6 ∨ f.kind = 7 ∨ f.kind = 8:=by omega
  have hfz : ∀ {n : Int},n = 0 → I64 n:=fun h => by subst h;unfold I64;omega
  rcases this with e|e|e|e|e|e|e|e
  · rw [ContOk,if_pos e] at hco
    exact el1_c h s f hf hs bx hb e (mx hco.1 (by omega)) (mx hco.2.1 (by omega)) (fun x hx => mx (hco.2.2.1.2.2 x hx) (by omega))
  · rw [ContOk,if_neg (by omega),if_pos e] at hco
    exact el2_c h s f hf hs bx hb e (game_i hco.1) (mx hco.2 (by omega))
  · rw [ContOk,if_neg (by omega),if_neg (by omega),if_pos e] at hco
    obtain ⟨g1,g2,g3,g4,g5,g6,g7,g8,g9,g10⟩:=hco
    refine el3_c h s f hf hs bx hb e (game_i g1) ?_ (fun x hx => mx (g6.2.1 x hx) (by omega)) (fun x hx => mx (g7.2.1 x hx) (by omega)) (fun c hc => mx (g6.2.1 _ (g8.2 c hc)) (by omega)) (fun c hc => mx (g7.2.1 _ (g9.2 c hc)) (by omega))
    intro x hx
    have hp : I64 f.sh.hp ∧ I64 f.sh.ap:=by
      rcases g5 with ⟨q1,q2⟩|⟨_,q1,q2,_⟩
      · exact ⟨hfz q1,hfz q2⟩
      · exact ⟨mx q1 (by omega),mx q2 (by omega)⟩
    simp only [List.mem_cons,List.not_mem_nil,or_false] at hx
    rcases hx with rfl|rfl|rfl|rfl|rfl
    · exact mx g2 (by omega)
    · exact mx g3 (by omega)
    · exact mx g4 (by omega)
    · exact hp.1
    · exact hp.2
  · rw [ContOk,if_neg (by omega),if_neg (by omega),if_neg (by omega),if_pos e] at hco
    obtain ⟨r1,r2,r3,r4,r5,r6⟩:=hco
    have hI : GameI f.ru.g ∧ ∀ x ∈ [f.ru.kind,f.ru.club,f.ru.player,f.ru.season,f.ru.comp,f.ru.points,f.ru.amount,f.ru.hg,f.ru.ag,f.ru.lo,f.ru.hi],I64 x:=by
      rw [← r6]
      have z : I64 0:=by unfold I64;omega
      unfold RulGood at r5
      unfold onlyR
      unfold DaysOk Bel at r5
      by_cases k1 : f.ru.kind = 1
      · rw [if_pos k1] at r5 ⊢;refine ⟨game_i r5.1,fun x hx => ?_⟩
        have:=r5.1;unfold GameOk Bel at this
        simp [rul0] at hx;unfold I64;omega
      rw [if_neg k1] at r5 ⊢
      by_cases k1 : f.ru.kind = 2
      · rw [if_pos k1] at r5 ⊢;refine ⟨game_i r5,fun x hx => ?_⟩
        simp [rul0] at hx;unfold I64;omega
      rw [if_neg k1] at r5 ⊢
      by_cases k1 : f.ru.kind = 3
      · rw [if_pos k1] at r5 ⊢;refine ⟨game_i r5.1,fun x hx => ?_⟩
        simp [rul0] at hx;unfold I64;omega
      rw [if_neg k1] at r5 ⊢
      by_cases k1 : f.ru.kind = 4
      · rw [if_pos k1] at r5 ⊢;refine ⟨game0_i,fun x hx => ?_⟩
        simp [rul0] at hx;unfold I64;omega
      rw [if_neg k1] at r5 ⊢
      by_cases k1 : f.ru.kind = 5
      · rw [if_pos k1] at r5 ⊢;refine ⟨game0_i,fun x hx => ?_⟩
        simp [rul0] at hx;unfold I64;omega
      rw [if_neg k1] at r5 ⊢
      by_cases k1 : f.ru.kind = 6
      · rw [if_pos k1] at r5 ⊢;refine ⟨game0_i,fun x hx => ?_⟩
        simp [rul0] at hx;unfold I64;omega
      rw [if_neg k1] at r5 ⊢
      by_cases k1 : f.ru.kind = 7
      · rw [if_pos k1] at r5 ⊢;refine ⟨game0_i,fun x hx => ?_⟩
        simp [rul0] at hx;unfold I64;omega
      rw [if_neg k1] at r5 ⊢
      refine ⟨game0_i,fun x hx => ?_⟩
      simp [rul0] at hx;unfold I64;omega
    refine el4_c h s f hf hs bx hb e hI.1 (fun x hx => ?_) (fun x hx => hI.2 x (List.mem_cons_of_mem _ hx))
    simp only [List.mem_cons,List.not_mem_nil,or_false] at hx
    rcases hx with rfl|rfl|rfl
    · unfold I64;omega
    · unfold I64;omega
    · exact hI.2 _ (by simp)
  · rw [ContOk,if_neg (by omega),if_neg (by omega),if_neg (by omega),if_neg (by omega),if_pos e] at hco
    refine el5_c h s f hf hs bx hb e fun x hx => ?_
    simp only [List.mem_cons,List.not_mem_nil,or_false] at hx
    rcases hx with rfl|rfl|rfl
    · unfold I64;omega
    · unfold I64;omega
    · unfold I64;split <;> omega
  · rw [ContOk,if_neg (by omega),if_neg (by omega),if_neg (by omega),if_neg (by omega),if_neg (by omega),if_pos e] at hco
    exact el6_c h s f hf hs bx hb e (mx hco.1 (by omega)) (by rcases hco.2 with q|q;(rw [q];unfold I64;omega);exact mx q (by omega))
  · rw [ContOk,if_neg (by omega),if_neg (by omega),if_neg (by omega),if_neg (by omega),if_neg (by omega),if_neg (by omega),if_pos e] at hco
    exact el7_c h s f hf hs bx hb e (mx hco.1 (by omega)) (mx hco.2.1 (by omega)) (fun x hx => mx (hco.2.2.1.2.2 x hx) (by omega))
  · exact el8_c h s f hf hs bx hb e
end Go.Hw
set_option linter.unusedVariables false
set_option linter.unusedSimpArgs false
set_option maxRecDepth 100000
set_option maxHeartbeats 4000000
namespace Go.Hw
open Go
attribute [local irreducible] GO GOl GDp Val Fn Res CellsAt ValE Blk OwnS MapA OwnPf Has Yl
open Go.Proofs (Tryz.prog)
theorem bInt_le {n : Int} (h : I64 n) : (bInt n).length ≤ 23:=by
  have:=Lib.itoa_length_le n h.1 h.2
  unfold bInt
  simp only [List.length_append,List.length_cons,List.length_nil];omega
theorem bText_le {s : List UInt8} (h : s.length ≤ 1000) : (bText s).length ≤ 5000:=by
  have:=Lib.itoa_length_le (s.length : Int) (by omega) (by omega)
  unfold bText
  simp only [List.length_append,List.length_cons];omega
theorem flatMap_le {α β : Type} {e : α → List β} {m : Nat} : ∀ {l : List α},(∀ x ∈ l,(e x).length ≤ m) → (l.flatMap e).length ≤ l.length * m
  | [],_ => by simp
  | a :: l,h => by
    have h1:=h a (List.mem_cons_self ..)
    have h2:=flatMap_le (l:=l) fun x hx => h x (List.mem_cons_of_mem _ hx)
    rw [List.flatMap_cons,List.length_append,List.length_cons,Nat.add_mul];omega
theorem bNums_le {l : List Int} (h : ∀ x ∈ l,I64 x) : (bNums l).length ≤ 2 + l.length * 23:=by
  have:=flatMap_le (e:=bInt) (m:=23) fun x hx => bInt_le (h x hx)
  unfold bNums bList
  simp only [List.length_append,List.length_cons,List.length_nil];omega
theorem bCards_le {l : List FCard} (h : ∀ c ∈ l,I64 c.p) : (bCards l).length ≤ 2 + l.length * 48:=by
  have:=flatMap_le (e:=fun c => bNums (cardL c)) (m:=48) (l:=l) fun x hx => by
    have:=bNums_le (card_all x (h x hx))
    exact this
  unfold bCards bList
  simp only [List.length_append,List.length_cons,List.length_nil];omega
def ElOk (b : List UInt8) : Prop:=(∃ n,I64 n ∧ b = bInt n) ∨ (∃ l,(∀ x ∈ l,I64 x) ∧ l.length ≤ 100 ∧ b = bNums l) ∨ (∃ l,(∀ c ∈ l,I64 c.p) ∧ l.length ≤ 100 ∧ b = bCards l) ∨ ∃ s,s.length ≤ 1000 ∧ b = bText s
theorem ElOk.len {b : List UInt8} (h : ElOk b) : b.length ≤ 5000:=by
  rcases h with ⟨n,h,rfl⟩|⟨l,h,hl,rfl⟩|⟨l,h,hl,rfl⟩|⟨s,hl,rfl⟩
  · have:=bInt_le h;omega
  · have:=bNums_le h;omega
  · have:=bCards_le h;omega
  · exact bText_le hl
theorem el_int {n : Int} (h : I64 n) : ElOk (bInt n):=.inl ⟨n,h,rfl⟩
theorem el_nums {l : List Int} (h : ∀ x ∈ l,I64 x) (hl : l.length ≤ 100) : ElOk (bNums l):=.inr (.inl ⟨l,h,hl,rfl⟩)
theorem el_cards {l : List FCard} (h : ∀ c ∈ l,I64 c.p) (hl : l.length ≤ 100) : ElOk (bCards l):=.inr (.inr (.inl ⟨l,h,hl,rfl⟩))
theorem el_text {s : List UInt8} (hl : s.length ≤ 1000) : ElOk (bText s):=.inr (.inr (.inr ⟨s,hl,rfl⟩))
theorem el_game {g : FGame} (h : GameI g) : ElOk (bNums (gameL g)):=el_nums (gameI_all h) (by show 4 ≤ 100;omega)
theorem rul_i (r : FRul) (hr : RulOk r) : GameI r.g ∧ ∀ x ∈ [r.case,r.inst,r.kind,r.club,r.player,r.season,r.comp,r.points,r.amount,r.hg,r.ag,r.lo,r.hi],I64 x:=by
  obtain ⟨r1,r2,r3,r4,r5,r6⟩:=hr
  have hk : 1 ≤ r.kind ∧ r.kind ≤ 8:=by
    unfold RulGood at r5
    repeat' split at r5
    all_goals omega
  have hI : GameI r.g ∧ ∀ x ∈ [r.club,r.player,r.season,r.comp,r.points,r.amount,r.hg,r.ag,r.lo,r.hi],I64 x:=by
    rw [← r6]
    have z : I64 0:=by unfold I64;omega
    unfold RulGood at r5
    unfold onlyR
    unfold DaysOk Bel at r5
    by_cases k1 : r.kind = 1
    · rw [if_pos k1] at r5 ⊢;refine ⟨game_i r5.1,fun x hx => ?_⟩
      have:=r5.1;unfold GameOk Bel at this
      simp [rul0] at hx;unfold I64;omega
    rw [if_neg k1] at r5 ⊢
    by_cases k1 : r.kind = 2
    · rw [if_pos k1] at r5 ⊢;refine ⟨game_i r5,fun x hx => ?_⟩
      simp [rul0] at hx;unfold I64;omega
    rw [if_neg k1] at r5 ⊢
    by_cases k1 : r.kind = 3
    · rw [if_pos k1] at r5 ⊢;refine ⟨game_i r5.1,fun x hx => ?_⟩
      simp [rul0] at hx;unfold I64;omega
    rw [if_neg k1] at r5 ⊢
    by_cases k1 : r.kind = 4
    · rw [if_pos k1] at r5 ⊢;refine ⟨game0_i,fun x hx => ?_⟩
      simp [rul0] at hx;unfold I64;omega
    rw [if_neg k1] at r5 ⊢
    by_cases k1 : r.kind = 5
    · rw [if_pos k1] at r5 ⊢;refine ⟨game0_i,fun x hx => ?_⟩
      simp [rul0] at hx;unfold I64;omega
    rw [if_neg k1] at r5 ⊢
    by_cases k1 : r.kind = 6
    · rw [if_pos k1] at r5 ⊢;refine ⟨game0_i,fun x hx => ?_⟩
      simp [rul0] at hx;unfold I64;omega
    rw [if_neg k1] at r5 ⊢
    by_cases k1 : r.kind = 7
    · rw [if_pos k1] at r5 ⊢;refine ⟨game0_i,fun x hx => ?_⟩
      simp [rul0] at hx;unfold I64;omega
    rw [if_neg k1] at r5 ⊢
    refine ⟨game0_i,fun x hx => ?_⟩
    simp [rul0] at hx;unfold I64;omega
  refine ⟨hI.1,?_⟩
  have i1 : I64 r.case:=by unfold I64;omega
  have i2 : I64 r.inst:=by unfold I64;omega
  have i3 : I64 r.kind:=by unfold I64;omega
  exact List.forall_mem_cons.2 ⟨i1,List.forall_mem_cons.2 ⟨i2,List.forall_mem_cons.2 ⟨i3,hI.2⟩⟩⟩
theorem elems_ok (f : Fct) (hok : FctOk f) (hv : f.void.length = 32) : (∀ b ∈ elemsB f,ElOk b) ∧ (elemsB f).length ≤ 14:=by
  have hco:=hok.2.2.1
  have mx : ∀ {n m : Int},Bel n m → m ≤ 1000000000 → I64 n:=fun h1 h2 => bel_i h1 (by omega)
  have hfz : ∀ {n : Int},n = 0 → I64 n:=fun h => by subst h;unfold I64;omega
  have hnil : ∀ b ∈ ([] : List (List UInt8)),ElOk b:=fun b hb => by cases hb
  unfold elemsB
  unfold ContOk at hco
  by_cases e : f.kind = 1
  · rw [if_pos e] at hco ⊢
    obtain ⟨g1,g2,g3,g4,g5⟩:=hco
    refine ⟨?_,by simp⟩
    have hr : f.eRules.length ≤ 1000:=by
      split at g5
      · have:=g5.2.1;omega
      · rw [g5];simp
    exact List.forall_mem_cons.2 ⟨el_int (mx g1 (by omega)),List.forall_mem_cons.2 ⟨el_int (mx g2 (by omega)),List.forall_mem_cons.2 ⟨el_nums (fun x hx => mx (g3.2.2 x hx) (by omega)) (by omega),List.forall_mem_cons.2 ⟨el_text hr,hnil⟩⟩⟩⟩
  rw [if_neg e] at hco ⊢
  by_cases e : f.kind = 2
  · rw [if_pos e] at hco ⊢
    refine ⟨?_,by simp⟩
    exact List.forall_mem_cons.2 ⟨el_game (game_i hco.1),List.forall_mem_cons.2 ⟨el_int (mx hco.2 (by omega)),hnil⟩⟩
  rw [if_neg e] at hco ⊢
  by_cases e : f.kind = 3
  · rw [if_pos e] at hco ⊢
    obtain ⟨g1,g2,g3,g4,g5,g6,g7,g8,g9,g10⟩:=hco
    have hp : I64 f.sh.hp ∧ I64 f.sh.ap:=by
      rcases g5 with ⟨q1,q2⟩|⟨_,q1,q2,_⟩
      · exact ⟨hfz q1,hfz q2⟩
      · exact ⟨mx q1 (by omega),mx q2 (by omega)⟩
    refine ⟨?_,by simp⟩
    refine List.forall_mem_cons.2 ⟨el_game (game_i g1),List.forall_mem_cons.2 ⟨el_int (mx g2 (by omega)),List.forall_mem_cons.2 ⟨el_int (mx g3 (by omega)),List.forall_mem_cons.2 ⟨el_int (mx g4 (by omega)),List.forall_mem_cons.2 ⟨el_int hp.1,List.forall_mem_cons.2 ⟨el_int hp.2,?_⟩⟩⟩⟩⟩⟩
    refine List.forall_mem_cons.2 ⟨el_nums (fun x hx => mx (g6.2.1 x hx) (by omega)) (by have:=g6.1;omega),List.forall_mem_cons.2 ⟨el_nums (fun x hx => mx (g7.2.1 x hx) (by omega)) (by have:=g7.1;omega),?_⟩⟩
    exact List.forall_mem_cons.2 ⟨el_cards (fun c hc => mx (g6.2.1 _ (g8.2 c hc)) (by omega)) (by have:=g8.1;omega),List.forall_mem_cons.2 ⟨el_cards (fun c hc => mx (g7.2.1 _ (g9.2 c hc)) (by omega)) (by have:=g9.1;omega),hnil⟩⟩
  rw [if_neg e] at hco ⊢
  by_cases e : f.kind = 4
  · rw [if_pos e] at hco ⊢
    obtain ⟨i1,i2⟩:=rul_i _ hco
    refine ⟨?_,by simp⟩
    have I : ∀ {x},x ∈ [f.ru.case,f.ru.inst,f.ru.kind,f.ru.club,f.ru.player,f.ru.season,f.ru.comp,f.ru.points,f.ru.amount,f.ru.hg,f.ru.ag,f.ru.lo,f.ru.hi] → ElOk (bInt x):=fun hx => el_int (i2 _ hx)
    intro b hb
    simp only [List.mem_cons,List.not_mem_nil,or_false] at hb
    rcases hb with rfl|rfl|rfl|rfl|rfl|rfl|rfl|rfl|rfl|rfl|rfl|rfl|rfl|rfl
    · exact I (by simp)
    · exact I (by simp)
    · exact I (by simp)
    · exact el_game i1
    all_goals exact I (by simp)
  rw [if_neg e] at hco ⊢
  by_cases e : f.kind = 5
  · rw [if_pos e] at hco ⊢
    refine ⟨?_,by simp⟩
    exact List.forall_mem_cons.2 ⟨el_int (by unfold I64;omega),List.forall_mem_cons.2 ⟨el_int (by unfold I64;omega),List.forall_mem_cons.2 ⟨el_int (by unfold I64;split <;> omega),hnil⟩⟩⟩
  rw [if_neg e] at hco ⊢
  by_cases e : f.kind = 6
  · rw [if_pos e] at hco ⊢
    refine ⟨?_,by simp⟩
    exact List.forall_mem_cons.2 ⟨el_int (mx hco.1 (by omega)),List.forall_mem_cons.2 ⟨el_int (by rcases hco.2 with q|q;(rw [q];unfold I64;omega);exact mx q (by omega)),hnil⟩⟩
  rw [if_neg e] at hco ⊢
  by_cases e : f.kind = 7
  · rw [if_pos e] at hco ⊢
    refine ⟨?_,by simp⟩
    exact List.forall_mem_cons.2 ⟨el_int (mx hco.1 (by omega)),List.forall_mem_cons.2 ⟨el_int (mx hco.2.1 (by omega)),List.forall_mem_cons.2 ⟨el_nums (fun x hx => mx (hco.2.2.1.2.2 x hx) (by omega)) (by have:=hco.2.2.1.2.1;omega),hnil⟩⟩⟩
  rw [if_neg e]
  refine ⟨?_,by simp⟩
  exact List.forall_mem_cons.2 ⟨el_text (by omega),hnil⟩
theorem flatten_le {m : Nat} : ∀ {l : List (List UInt8)},(∀ x ∈ l,x.length ≤ m) → l.flatten.length ≤ l.length * m
  | [],_ => by simp
  | a :: l,h => by
    have h1:=h a (List.mem_cons_self ..)
    have h2:=flatten_le (l:=l) fun x hx => h x (List.mem_cons_of_mem _ hx)
    rw [List.flatten_cons,List.length_append,List.length_cons,Nat.add_mul];omega
def keys7 : List (List UInt8):=["day".toUTF8.data.toList, "kind".toUTF8.data.toList, "known".toUTF8.data.toList, "what".toUTF8.data.toList]
theorem encF_dict (f : Fct) : encF f = bDict keys7 [bInt f.day,bInt f.kind,bInt f.known,bSeq (elemsB f)]:=by
  unfold encF bDict keys7 bSeq
  rw [elems_flat]
  simp only [List.zip_cons_cons,List.zip_nil_right,List.flatMap_cons,List.flatMap_nil,List.append_assoc,List.append_nil,List.nil_append,List.cons_append]
theorem keys7_up : keys7.Pairwise fun a b => Op.bytesLess a b = true:=by decide
theorem encF_le (f : Fct) (hok : FctOk f) (hv : f.void.length = 32) : (encF f).length ≤ 200000:=by
  have h1:=elems_ok f hok hv
  have h2:=flatten_le (m:=5000) fun x hx => (h1.1 x hx).len
  rw [elems_flat] at h2
  have hb : ∀ {n : Int},Bel n 1048577 → (bInt n).length ≤ 23:=fun h => bInt_le (bel_i h (by omega))
  have h3:=hb hok.1
  have h4:=hb hok.2.1
  have hk : 1 ≤ f.kind ∧ f.kind ≤ 8:=by
    refine Classical.byContradiction fun hk => (fct_none f hk).2 hok.2.2.1
  have h5 : (bInt f.kind).length ≤ 23:=bInt_le (by unfold I64;omega)
  have t : ∀ s : String,s.toUTF8.data.toList.length ≤ 1000 → (bText s.toUTF8.data.toList).length ≤ 5000:=fun s h => bText_le h
  have t1:=t "day" (by decide)
  have t2:=t "kind" (by decide)
  have t3:=t "known" (by decide)
  have t4:=t "what" (by decide)
  unfold encF
  simp only [List.length_append,List.length_cons,List.length_nil]
  omega
theorem elements_c (h : Ro) (s : Fsh) (f : Fct) : Res Tryz.prog 66 #[factV s f] h (fun u h' => ∃ bx,u = .func (.func 125) #[] #[.pointer (some ⟨bx,0,none⟩)] ∧ CellsAt h' ⟨bx,0,none⟩ (factC s f)):=by
  refine Res_intro (args:=[_]) ts_ok Go.Proofs.Tryz.func66 rfl rfl fun w0 X0 => ?_
  repeat' (first|apply GO_seq|apply GO_region|apply GOl_nil|(apply GOl_pv;(iterate 3 exact rfl))|(apply GOl_to;(iterate 3 exact rfl);(first|(apply OpTo_box;exact rfl;intro b;skip))))
  refine GO_relB QK ?_
  intro h1 hle1 hc1
  (first|(apply GO_retR1;(iterate 3 exact rfl)))
  exact ⟨b,rfl,hc1⟩
end Go.Hw
set_option linter.unusedVariables false
set_option linter.unusedSimpArgs false
set_option maxRecDepth 100000
set_option maxHeartbeats 4000000
namespace Go.Hw
open Go
attribute [local irreducible] GO GOl GDp Val Fn Res CellsAt ValE Blk OwnS MapA OwnPf Has Yl
open Go.Proofs (Tryz.prog)
theorem four_le : 4 ≤ 1000000:=by omega
theorem OpTo_storeI {C : Ctx} {l : Sl} {Es : List Asn} {h : Ro} {G : Value → List Asn → Ro → Prop} {ty : TypeId} {pos : String} {aft : Array Edge} {gd : Option (Nat × Bool)} {t e sz : Nat} {x y : Operand} {b off n c : Nat} {v : Value} {xs ys : List Value} {Es' : List Asn} {T : Ty}
    (hT : tyOf t C.ts = some T) (hx : evl l x = some (.pointer (some ((addrD (some ⟨b,0,none⟩)).add off)))) (hy : evl l y = some v) (hR : Repl Es (OwnS e sz (.slice (some ⟨b,0,none⟩) n c) n xs) (OwnS e sz (.slice (some ⟨b,0,none⟩) n c) n ys) Es')
    (hys : ys = xs.take off ++ partL v ++ xs.drop (off + (partL v).length)) (hoff : off + (partL v).length ≤ xs.length)
    (hl : Nat.beq (partL v).length T.size = true) (h1 : allOne (partL v) = true) (g : G undef Es' h) : OpTo C l Es h ⟨none,.store t x y,ty,pos,aft,gd⟩ G :=
  OpTo_storeS hT (by rw [hx];show some (Value.pointer (some ((⟨b,0,none⟩ : Addr).add off))) = _;rw [add_off,Nat.zero_add]) hy hR hys hoff hl h1 g
open Classical in
theorem encode7_c (h : Ro) (hG : PowG h) (s : Fsh) (f : Fct) (hf : FAt h s f) (hs : FSm f) : Res Tryz.prog 50 #[factV s f] h (fun u h' => if FctOk f then ∃ A c,u = .tuple #[.slice A (encF f).length c,.int .i64 0] ∧ SlOf encB 1 h' A (encF f).length (encF f) else u = .tuple #[.slice none 0 0,.int .i64 70]):=by
  refine Res_intro (args:=[_]) ts_ok Go.Proofs.Tryz.func50 rfl rfl fun w0 X0 => ?_
  have hvl:=hf.void
  by_cases hg : FctOk f
  · have hel:=(elems_ok f hg hvl).2
    have hle0:=encF_le f hg hvl
    repeat' (first|apply GO_seq|apply GO_skip|apply GO_block|apply GO_region|apply GOl_nil|(apply GOl_pv;(iterate 3 exact rfl))|(apply GOl_load;exact rfl;exact Ld_blk rfl QM rfl;exact rfl;exact rfl)|(apply GOl_to;(iterate 3 exact rfl);(first|(apply OpTo_box;exact rfl;intro b;skip)|(apply OpTo_alloc;exact rfl;intro b;skip)|(apply OpTo_val;exact rfl;exact has49;(have:=check7_c h s f hf hs;rw [if_pos hg] at this;exact this);skip)|(apply OpTo_res;exact rfl;exact has66;exact elements_c _ s f;rintro vr hs1 hle1 ⟨bx,rfl,hcb⟩;skip)))|(apply GO_cond;exact rfl;all_goals (intro hc;try simp only [hcS,reduceCtorEq] at hc;try (exfalso;omega))))
    rename_i b0
    generalize b = bT
    refine GO_nilS 147 5 ?_
    refine GO_take (Es':=[Blk bT 141 [.slice none 0 0],OwnS 147 5 (.slice none 0 0) 0 [],Blk b0 60 (factC s f)]) QT ?_
    refine GO_rangeFuncR (R:=ER) (xs:=elemsB f) (gf:=125) (lb:=[.pointer (some ⟨bx,0,none⟩)]) rfl rfl has125 (elems_c _ s f (hf.le hle1) hs bx hcb hg) (by rintro x u h2 ⟨v,rfl,_⟩;rfl) rfl
      (fun pre Es h2 => ∃ (vs : List Va) (A : Option Addr) (c : Nat),Es = [Blk bT 141 [.slice A pre.length c],OwnS 147 5 (.slice A pre.length c) pre.length (vs.flatMap vaC),Blk b0 60 (factC s f)] ∧ vs.length = pre.length ∧ Zip7 (VEnc 4 h2) vs pre) (fun _ _ _ _ => False)
      (fun pre Es h2 h3 hl ⟨vs,A,c,e1,e2,e3⟩ => ⟨vs,A,c,e1,e2,e3.imp fun a b q => q.le hl⟩) (fun _ _ _ _ _ _ h => h.elim) ⟨[],none,0,rfl,rfl,Zip7.nil⟩ ?_ ?_ (fun _ _ _ _ _ _ _ _ h => h.elim)
    · rintro lid r0 w1 X1 pre x post u Es1 h1 hx ⟨v,rfl,hv⟩ ⟨vs,A,c,rfl,hvs,hz⟩ hle hst
      have hpl : pre.length + 1 ≤ (elemsB f).length:=by rw [hx];simp
      have hpl2 : pre.length ≤ 14:=by omega
      have hys:=flat_set vaC_len vs va0 v
      rw [hvs] at hys
      have hoff : pre.length * 5 + (vaC v).length ≤ ((vs ++ [va0]).flatMap vaC).length:=by
        rw [flatMap_len vaC_len,List.length_append,hvs,vaC_len,Nat.add_mul];exact Nat.le_refl _
      repeat' (first|apply GO_inBlock|apply GO_block|apply GO_region|apply GOl_nil|(apply GO_begin;exact rfl;exact QK;exact hst)|(apply GOl_to;(iterate 3 exact rfl);(first|(apply OpTo_store;(iterate 3 exact rfl);exact QR;(iterate 3 exact rfl);skip)|(apply OpTo_alloc;exact rfl;intro b;skip)))|(apply GO_drawp (n:=7) [0,1,2,3,4,7,5,6] [(0,0),(1,0),(2,0),(3,1),(4,1),(5,0),(6,2),(1,7),(7,1),(6,1)];kernel_rfl)|(apply GP_pv;exact rfl;kernel_rfl;(iterate 3 exact rfl))|(apply GP_loadB;exact rfl;kernel_rfl;(iterate 3 exact rfl);exact QM;exact rfl;exact rfl)|(apply GP_ov;exact rfl;kernel_rfl;exact rfl;exact rfl;(first|(apply OV_idxS (j:=pre.length);(iterate 6 exact rfl);(with_reducible exact rfl);omega));exact QA)|(apply GP_real;exact rfl;kernel_rfl;(iterate 3 exact rfl);(first|(apply OpTo_store;(iterate 3 exact rfl);exact QR;(iterate 3 exact rfl);refine ⟨Le.refl _,QN,?_⟩)|(apply OpTo_buildSliceS (enc:=vaC) (n:=1) [va0];(iterate 3 exact rfl);exact List.cons_ne_nil _ _;(iterate 4 exact rfl);exact vaC_len;exact rfl;exact rfl;intro bz hz1 hlez hs1;refine ⟨hlez,QN,?_⟩)|(apply OpTo_appendG (enc:=vaC) (xs:=vs);(iterate 7 exact rfl);exact hs1;exact vaC_len;exact vaC_one;intro v1;exact QR;omega;exact rfl;omega;intro v1;exact QM;intro A1 c1;refine ⟨Le.refl _,QN,?_⟩)|(apply OpTo_storeI (ys:=(vs ++ [v]).flatMap vaC);(iterate 3 exact rfl);exact QR;exact hys;exact hoff;exact rfl;exact rfl;refine ⟨Le.refl _,QN,?_⟩)))|(apply GP_two;kernel_rfl;exact rfl;exact rfl)|(apply RealP_intro;(iterate 4 exact rfl);(first|(apply OpTo_store;(iterate 3 exact rfl);exact QR;(iterate 3 exact rfl);refine ⟨Le.refl _,QN,?_⟩)|(apply OpTo_storeI (ys:=(vs ++ [v]).flatMap vaC);(iterate 3 exact rfl);exact QR;exact hys;exact hoff;exact rfl;exact rfl;refine ⟨Le.refl _,QN,?_⟩)))|(apply GP_done;kernel_rfl;exact rfl))
      all_goals
        refine GO_take (Es':=[LoopA lid { r0 with state:=.busy },Blk bT 141 [.slice (some ⟨A1,0,none⟩) (pre.length + 1) c1],OwnS 147 5 (.slice (some ⟨A1,0,none⟩) (pre.length + 1) c1) (pre.length + 1) ((vs ++ [v]).flatMap vaC),Blk b0 60 (factC s f)]) QT (GO_rEnd (r0:=r0) rfl .here ⟨vs ++ [v],some ⟨A1,0,none⟩,c1,?_,by simp [hvs],?_⟩)
        · rw [List.length_append];rfl
        · exact (hz.imp fun a b q => q.le (by first|exact Le.refl _|assumption|(repeat (first|assumption|(apply Le.trans;assumption))))).snoc (hv.le (by first|exact Le.refl _|assumption|(repeat (first|assumption|(apply Le.trans;assumption)))))
    · rintro D h1 Es1 hle ⟨vs,A,c,rfl,hvs,hz⟩
      refine GO_relS (enc:=vaC) (xs:=vs) vaC_len hvs QK ?_
      intro A2 c2 h2 hle2 e2 hs2
      injection e2 with e21 _ e23
      subst e21;subst e23
      have hz2:=hz.imp fun a b q => q.le hle2
      have hel2 : (elemsB f).length ≤ 1000000:=by omega
      have hk : 1 ≤ f.kind ∧ f.kind ≤ 8:=by
        refine Classical.byContradiction fun hk => (fct_none f hk).2 hg.2.2.1
      have i1 : I64 f.day:=bel_i hg.1 (by omega)
      have i2 : I64 f.kind:=by unfold I64;omega
      have i3 : I64 f.known:=bel_i hg.2.1 (by omega)
      repeat' (first|apply GO_seq|apply GO_inBlock|(apply GO_drawp (n:=8) [0,1,2,3,4,5,6,7,8,9,10,11,12,13,14,15,16,17,18] [(1,0),(2,0),(4,0),(5,0),(7,0),(8,0),(10,0),(0,2),(11,3),(3,1),(6,1),(9,1),(11,1),(12,1),(13,0),(14,1),(15,0),(16,0),(17,0),(18,0),(0,2),(10,6),(6,1),(9,1),(11,1),(12,1),(13,0),(14,1),(15,0),(16,0),(17,0),(18,0),(0,2),(9,9),(9,1),(11,1),(12,1),(13,0),(14,1),(15,0),(16,0),(17,0),(18,0),(0,2),(8,11),(11,1),(12,1),(13,0),(14,1),(15,0),(16,0),(17,0),(18,0),(0,2),(7,12),(12,1),(13,0),(14,1),(15,0),(16,0),(17,0),(18,0),(0,1),(13,0),(14,1),(15,0),(16,0),(17,0),(18,0)];kernel_rfl)|(apply GP_pv;exact rfl;kernel_rfl;(iterate 3 exact rfl))|(apply GP_loadB;exact rfl;kernel_rfl;(iterate 3 exact rfl);exact QM;exact rfl;exact rfl)|(apply GP_real;exact rfl;kernel_rfl;(iterate 3 exact rfl);(first|(apply OpTo_buildSliceS (enc:=encS7) (n:=4) (e:=9) keys7;(iterate 3 exact rfl);exact List.cons_ne_nil _ _;(iterate 4 exact rfl);exact (fun _ => rfl);exact rfl;exact rfl;intro bk hk7 hlek hks;refine ⟨hlek,QN,?_⟩)|(apply OpTo_buildSliceS (enc:=vaC) (n:=4) (e:=147) [vaInt f.day,vaInt f.kind,vaInt f.known,vaList A (elemsB f).length c];(iterate 3 exact rfl);exact List.cons_ne_nil _ _;(iterate 4 exact rfl);exact vaC_len;exact rfl;exact rfl;intro bz hz1 hlez hs1;refine ⟨hlez,QN,?_⟩)|(apply OpTo_res;exact rfl;exact has67;exact encode_c _ (hG.le (by first|exact Le.refl _|assumption|(repeat (first|assumption|(apply Le.trans;assumption))))) 6 (by omega) ⟨4,0,[],⟨some ⟨bz,0,none⟩,4,4⟩,⟨some ⟨bk,0,none⟩,4,4⟩⟩ (encF f) (.inr (.inr (.inr ⟨⟨some ⟨bz,0,none⟩,4,4⟩,⟨some ⟨bk,0,none⟩,4,4⟩,[vaInt f.day,vaInt f.kind,vaInt f.known,vaList A (elemsB f).length c],[bInt f.day,bInt f.kind,bInt f.known,bSeq (elemsB f)],keys7,rfl,hs1.le (by first|exact Le.refl _|assumption|(repeat (first|assumption|(apply Le.trans;assumption)))),Zip7.cons (venc_int i1) (Zip7.cons (venc_int i2) (Zip7.cons (venc_int i3) (Zip7.cons (venc_list (hs2.le (by first|exact Le.refl _|assumption|(repeat (first|assumption|(apply Le.trans;assumption))))) (hz2.imp fun a b q => q.le (by first|exact Le.refl _|assumption|(repeat (first|assumption|(apply Le.trans;assumption))))) hel2) Zip7.nil))),hks.le (by first|exact Le.refl _|assumption|(repeat (first|assumption|(apply Le.trans;assumption)))),rfl,keys7_up,four_le,encF_dict f⟩))) (by omega);rintro v4 h4 hle4 ⟨A4,c4,rfl,hr4⟩;refine ⟨hle4,QN,?_⟩)|(apply OpTo_val;exact rfl;exact has68;exact num_c _ _;refine ⟨Le.refl _,QN,?_⟩)|(apply OpTo_val;exact rfl;exact has69;exact list_c _ _ _ _;refine ⟨Le.refl _,QN,?_⟩)))|(apply GP_two;kernel_rfl;exact rfl;exact rfl)|(apply RealP_intro;(iterate 4 exact rfl);(first|(apply OpTo_buildSliceS (enc:=encS7) (n:=4) (e:=9) keys7;(iterate 3 exact rfl);exact List.cons_ne_nil _ _;(iterate 4 exact rfl);exact (fun _ => rfl);exact rfl;exact rfl;intro bk hk7 hlek hks;refine ⟨hlek,QN,?_⟩)|(apply OpTo_buildSliceS (enc:=vaC) (n:=4) (e:=147) [vaInt f.day,vaInt f.kind,vaInt f.known,vaList A (elemsB f).length c];(iterate 3 exact rfl);exact List.cons_ne_nil _ _;(iterate 4 exact rfl);exact vaC_len;exact rfl;exact rfl;intro bz hz1 hlez hs1;refine ⟨hlez,QN,?_⟩)|(apply OpTo_val;exact rfl;exact has68;exact num_c _ _;refine ⟨Le.refl _,QN,?_⟩)|(apply OpTo_val;exact rfl;exact has69;exact list_c _ _ _ _;refine ⟨Le.refl _,QN,?_⟩)))|(apply GP_done;kernel_rfl;exact rfl))
      all_goals
        refine GO_rt (Rt_mark rfl QK (Rt_S (rs:=[.tmp 2,.tmp 3]) (vs:=[.slice A4 (encF f).length c4,.int .i64 0]) rfl rfl ⟨rfl,rfl,trivial⟩ (List.nil_sublist _) ⟨rfl,?_⟩))
        show if FctOk f then _ else _
        rw [if_pos hg]
        exact ⟨_,_,rfl,hr4⟩
  · repeat' (first|apply GO_seq|apply GO_region|apply GOl_nil|(apply GOl_pv;(iterate 3 exact rfl))|(apply GOl_load;exact rfl;exact Ld_blk rfl QM rfl;exact rfl;exact rfl)|(apply GOl_to;(iterate 3 exact rfl);(first|(apply OpTo_box;exact rfl;intro b;skip)|(apply OpTo_val;exact rfl;exact has49;(have:=check7_c h s f hf hs;rw [if_neg hg] at this;exact this);skip)))|(apply GO_cond;exact rfl;all_goals (intro hc;try simp only [hcS,reduceCtorEq] at hc;try (exfalso;omega)))|(apply GO_retR2;(iterate 4 exact rfl)))
    rw [if_neg hg]
end Go.Hw
set_option linter.unusedVariables false
set_option linter.unusedSimpArgs false
set_option maxRecDepth 100000
set_option maxHeartbeats 4000000
namespace Go.Hw
open Go
attribute [local irreducible] GO GOl GDp Val Fn Res CellsAt ValE Blk OwnS MapA OwnPf Has Yl
open Go.Proofs (Tryz.prog)
theorem cmpB_lib : ∀ (a b : List UInt8),Lib.compareBytes a b = cmpB a b
  | [],[] => rfl
  | [],_ :: _ => rfl
  | _ :: _,[] => rfl
  | a :: x,b :: y => by
    unfold Lib.compareBytes cmpB
    rw [cmpB_lib x y]
    simp only [UInt8.lt_iff_toNat_lt]
theorem run_cmp7 {P : Program} {w : World} {h : Ro} (hl : Le h (mem w)) {A B : Option Addr} {n c m d : Nat} {x y : List UInt8} (hx : SlOf encB 1 h A n x) (hy : SlOf encB 1 h B m y) :
    (Extern.BytealgCompare.compare (Array.mk [Value.slice A n c,.slice B m d])).run P w = .ok (.int .i64 (cmpB x y)) w:=by
  change Sem.run P (do pure (goInt (Extern.BytealgCompare.cmp (← Extern.Bytes.bytesOf (.slice A n c)) (← Extern.Bytes.bytesOf (.slice B m d))))) w = _
  simp only [Sem.run_bind,run_bytesOf hl hx,run_bytesOf hl hy,Sem.run_pure,Result.andThen]
  rw [Lib.cmp_eq,cmpB_lib]
  rfl
theorem isNaN7_c (h : Ro) (a : Int) : Val Tryz.prog 56 #[.int .i64 a] h (.bool false):=by
  refine Val_intro (args:=[_]) ts_ok Go.Proofs.Tryz.func56 rfl rfl fun w0 X0 => ?_
  repeat' (first|apply GO_seq|apply GO_region|apply GOl_nil|(apply GOl_pv;(iterate 3 exact rfl))|(apply GO_retV1;(iterate 3 exact rfl)))
  all_goals simp [eqI_eq]
theorem cmpI7_c (h : Ro) (a b : Int) : Val Tryz.prog 40 #[.int .i64 a,.int .i64 b] h (.int .i64 (cmpI a b)):=by
  refine Val_intro (args:=[_,_]) ts_ok Go.Proofs.Tryz.func40 rfl rfl fun w0 X0 => ?_
  repeat' (first|apply GO_seq|apply GO_skip|apply GO_region|apply GOl_nil|(apply GOl_pv;(iterate 3 exact rfl))|(apply GOl_to;(iterate 3 exact rfl);(first|(apply OpTo_val;exact rfl;exact has56;exact isNaN7_c _ _;skip)))|(apply GO_cond;exact rfl;all_goals (intro hc;try simp only [hcS,reduceCtorEq] at hc;try (exfalso;omega)))|(apply GO_retV1;(iterate 3 exact rfl)))
  all_goals (unfold cmpI;congr 1;(repeat' split) <;> omega)
theorem bytesCmp_c (h : Ro) (A B : Option Addr) (n c m d : Nat) (x y : List UInt8) (hx : SlOf encB 1 h A n x) (hy : SlOf encB 1 h B m y) : Val Tryz.prog 51 #[.slice A n c,.slice B m d] h (.int .i64 (cmpB x y)):=by
  refine Val_intro (args:=[_,_]) ts_ok Go.Proofs.Tryz.func51 rfl rfl fun w0 X0 => ?_
  repeat' (first|apply GO_seq|apply GO_region|apply GOl_nil|(apply GOl_pv;(iterate 3 exact rfl))|(apply GOl_ov;exact rfl;exact rfl;(first|(apply OV_ext (e:=Extern.BytealgCompare.compare);exact rfl;exact rfl;kernel_rfl;exact rfl;kernel_rfl;kernel_rfl;exact fun w hl => run_cmp7 hl hx hy));exact QA)|(apply GO_retV1;(iterate 3 exact rfl)))
  all_goals rfl
def orL : List Int → Int
  | [] => 0
  | a :: l => if a ≠ 0 then a else orL l
theorem orL_cons (a : Int) (l : List Int) : orL (a :: l) = if a ≠ 0 then a else orL l:=rfl
theorem or7_c (h : Ro) (A : Option Addr) (n c : Nat) (l : List Int) (hx : SlOf encI 1 h A n l) (hn : n ≤ 1000000) : Val Tryz.prog 39 #[.slice A n c] h (.int .i64 (orL l)):=by
  refine Val_intro (args:=[_]) ts_ok Go.Proofs.Tryz.func39 rfl rfl fun w0 X0 => ?_
  have hlen:=hx.len
  repeat' (first|apply GO_seq|apply GO_block|apply GO_region|apply GOl_nil|(apply GOl_pv;(iterate 3 exact rfl)))
  refine GO_while (X:=Nat) (fun k => k ≤ n ∧ orL l = orL (l.drop k)) (fun k => n - k) (fun k => [(8,.int .i64 k),(7,.int .i64 n),(6,.slice A n c),(3,.int .i64 0)]) (fun _ => []) (fun _ => h) 0 ⟨by omega,rfl⟩ QS rfl rfl ?_
  rintro k ⟨hk,ho⟩ ih
  by_cases hkn : k < n
  · have a1:=hx.addrD hkn
    have cc:=hx.cellsD 0 hkn
    have hd:=drop7 0 hlen hkn
    rw [hd] at ho
    generalize l.getD k 0 = u at *
    rw [orL_cons] at ho
    repeat' (first|apply GO_seq|apply GO_skip|apply GO_inBlock|apply GO_block|apply GO_region|apply GOl_nil|(apply GOl_add;(iterate 3 exact rfl);omega;exact rfl;exact rfl)|(apply GOl_pv;(iterate 3 exact rfl))|(apply GOl_ov;exact rfl;exact rfl;(first|(apply OV_idxS (j:=k);(iterate 5 exact rfl);exact a1;(with_reducible exact rfl);omega)|(apply OV_load;exact rfl;exact Lv_ro rfl cc rfl));exact QA)|(apply GO_cond;exact rfl;all_goals (intro hc;try simp only [hcS,reduceCtorEq] at hc;try (exfalso;omega)))|(apply GO_retV1;(iterate 3 exact rfl)))
    all_goals first
      | (have hu : u ≠ 0:=by assumption
         rw [ho,if_pos hu];done)
      | (have hu : u = 0:=by assumption
         have h3:=ih (k + 1) ⟨by show k + 1 ≤ n;omega,by show orL l = orL (l.drop (k + 1));rw [ho,if_neg (fun h => h hu)]⟩ (by show n - (k + 1) < n - k;omega)
         refine GO_fit QS QT (h3))
  · rw [List.drop_eq_nil_of_le (by omega)] at ho
    repeat' (first|apply GO_seq|apply GO_region|apply GOl_nil|(apply GO_exit;exact rfl)|(apply GOl_pv;(iterate 3 exact rfl))|(apply GO_cond;exact rfl;all_goals (intro hc;try simp only [hcS,reduceCtorEq] at hc;try (exfalso;omega)))|(apply GO_retV1;(iterate 3 exact rfl)))
    all_goals (rw [ho];rfl)
theorem cmpF_or (f g : Fct) : cmpF f g = if orL [cmpI f.known g.known,cmpI f.day g.day,cmpI f.kind g.kind] ≠ 0 then orL [cmpI f.known g.known,cmpI f.day g.day,cmpI f.kind g.kind] else cmpB (encF f) (encF g):=by
  unfold cmpF
  simp only [orL_cons]
  show _ = if (if _ then _ else if _ then _ else if _ then _ else (0 : Int)) ≠ 0 then (if _ then _ else if _ then _ else if _ then _ else (0 : Int)) else _
  by_cases h1 : cmpI f.known g.known = 0
  · by_cases h2 : cmpI f.day g.day = 0
    · by_cases h3 : cmpI f.kind g.kind = 0
      · simp [h1,h2,h3]
      · simp [h1,h2,h3]
    · simp [h1,h2]
  · simp [h1]
open Classical in
theorem compare7_c (h : Ro) (hG : PowG h) (s t : Fsh) (f g : Fct) (hf : FAt h s f) (hs : FSm f) (hg : FAt h t g) (ht : FSm g) (of : FctOk f) (og : FctOk g) : Res Tryz.prog 28 #[factV s f,factV t g] h (fun u h' => u = .int .i64 (cmpF f g)):=by
  refine Res_intro (args:=[_,_]) ts_ok Go.Proofs.Tryz.func28 rfl rfl fun w0 X0 => ?_
  have hcf:=cmpF_or f g
  generalize hor : orL [cmpI f.known g.known,cmpI f.day g.day,cmpI f.kind g.kind] = o at *
  repeat' (first|apply GO_seq|apply GO_skip|apply GO_region|apply GOl_nil|(apply GOl_pv;(iterate 3 exact rfl))|(apply GOl_load;exact rfl;exact Ld_blk rfl QM rfl;exact rfl;exact rfl)|(apply GOl_to;(iterate 3 exact rfl);(first|(apply OpTo_box;exact rfl;intro b;skip)|(apply OpTo_res;exact rfl;exact has50;exact encode7_c _ (hG.le (by first|exact Le.refl _|assumption|(repeat (first|assumption|(apply Le.trans;assumption))))) s f (hf.le (by first|exact Le.refl _|assumption|(repeat (first|assumption|(apply Le.trans;assumption))))) hs;intro v2 h2 hle2 hq2;rw [if_pos of] at hq2;obtain ⟨A2,c2,rfl,hr2⟩:=hq2;skip)|(apply OpTo_res;exact rfl;exact has50;exact encode7_c _ (hG.le (by first|exact Le.refl _|assumption|(repeat (first|assumption|(apply Le.trans;assumption))))) t g (hg.le (by first|exact Le.refl _|assumption|(repeat (first|assumption|(apply Le.trans;assumption))))) ht;intro v3 h3 hle3 hq3;rw [if_pos og] at hq3;obtain ⟨A3,c3,rfl,hr3⟩:=hq3;skip)|(apply OpTo_val;exact rfl;exact has51;exact bytesCmp_c _ _ _ _ _ _ _ _ _ (hr2.le (by first|exact Le.refl _|assumption|(repeat (first|assumption|(apply Le.trans;assumption))))) (hr3.le (by first|exact Le.refl _|assumption|(repeat (first|assumption|(apply Le.trans;assumption)))));skip)))|(apply GO_drawp (n:=1) [0,1,2,3,4,5,6,7,8,9,10,11,12,13,14,15,16,17] [(0,0),(1,0),(2,0),(3,0),(5,0),(6,0),(7,0),(8,0),(10,0),(11,0),(12,0),(13,0),(4,1),(9,1),(14,1),(15,1),(16,1),(17,0)];kernel_rfl)|(apply GP_pv;exact rfl;kernel_rfl;(iterate 3 exact rfl))|(apply GP_loadB;exact rfl;kernel_rfl;(iterate 3 exact rfl);exact QM;exact rfl;exact rfl)|(apply GP_real;exact rfl;kernel_rfl;(iterate 3 exact rfl);(first|(apply OpTo_buildSliceR (e:=3) (cs:=[cmpI f.known g.known,cmpI f.day g.day,cmpI f.kind g.kind].map fun i => .int .i64 i);(iterate 3 exact rfl);exact List.cons_ne_nil _ _;(iterate 4 exact rfl);intro b1 h1 hle1 hcs1;refine ⟨hle1,QN,?_⟩)|(apply OpTo_val;exact rfl;exact has39;(have hv7:=or7_c _ _ 3 3 [cmpI f.known g.known,cmpI f.day g.day,cmpI f.kind g.kind] (SlOf_ints hcs1) (by omega);rw [hor] at hv7;exact hv7);refine ⟨Le.refl _,QN,?_⟩)|(apply OpTo_val;exact rfl;exact has40;exact cmpI7_c _ _ _;refine ⟨Le.refl _,QN,?_⟩)))|(apply GP_done;kernel_rfl;exact rfl)|(apply GO_cond;exact rfl;all_goals (intro hc;try simp only [hcS,reduceCtorEq] at hc;try (exfalso;omega)))|(apply GO_retR1;(iterate 3 exact rfl)))
  all_goals first
    | (rw [hcf,if_pos (by assumption)];done)
    | (have ho : o = 0:=by assumption
       rw [hcf,if_neg (fun h => h ho)];done)
end Go.Hw

import Derived.Test.YtphlhpbmkejbaaaGreatDoorBA
import Derived.Test.YtphlhpbmkejbaaaGreatDoorFE
import Derived.Test.YtphlhpbmkejbaaaGreatDoorHF
import Derived.Test.YtphlhpbmkejbaaaGreatDoorHB
import Derived.Test.YtphlhpbmkejbaaaGreatDoorHD
import Derived.Test.YtphlhpbmkejbaaaGreatDoorJShI
set_option linter.unusedVariables false
set_option linter.unusedSimpArgs false
set_option maxRecDepth 100000
set_option maxHeartbeats 8000000
namespace Go.Hw
open Go
attribute [local irreducible] GO GOl GDp Val Fn Res CellsAt ValE Blk OwnS MapA OwnPf Has Yl
open Go.Proofs (Tryz.prog)
theorem sortInts (e : TypeId) (v : Value) (xs : List Int) (n : Nat) (h : Ro) (hn : n ≤ 1000000000) (hx : xs.length = n) : Fn Tryz.prog 90 #[v] [OwnS e 1 v n (xs.flatMap encI)] h fun u Es _ => u = .tuple #[] ∧ Es = [OwnS e 1 v n ((sortI xs).flatMap encI)]:=sortFn Go.Proofs.Tryz.slices_Sort_int Go.Proofs.Tryz.slices_Sort_int_none e v xs n h hn hx
theorem compactInts (e : TypeId) (v : Value) (xs : List Int) (n : Nat) (h : Ro) (hn : n ≤ 1000000000) (hx : xs.length = n) : Fn Tryz.prog 70 #[v] [OwnS e 1 v n (xs.flatMap encI)] h fun u Es _ => Es = [OwnS e 1 u (Lib.compact xs).length ((Lib.compact xs).flatMap encI)]:=compactFn Go.Proofs.Tryz.slices_Compact_int Go.Proofs.Tryz.slices_Compact_int_empty compact_len e v xs n h hn hx
theorem take_split2 {l : List Int} {k n : Nat} (hlen : l.length = n) (hk : k < n) : l = l.take k ++ l.getD k 0 :: l.drop (k + 1):=by
  rw [← drop7 0 hlen hk,List.take_append_drop]
def FRi (x : Int) (u : List Value) (h : Ro) : Prop:=u = [.int .i64 x]
theorem valuesI_c (h : Ro) (A : Option Addr) (n c : Nat) : Res Tryz.prog 67 #[.slice A n c] h (fun u h' => ∃ b1,u = .func (.func 91) #[] #[.pointer (some ⟨b1,0,none⟩)] ∧ CellsAt h' ⟨b1,0,none⟩ [.slice A n c]):=by
  refine Res_intro (args:=[_]) ts_ok Go.Proofs.Tryz.func67 rfl rfl fun w0 X0 => ?_
  repeat' (first|apply GO_seq|apply GO_region|apply GOl_nil|(apply GOl_pv;(iterate 3 exact rfl))|(apply GOl_to;(iterate 3 exact rfl);(first|(apply OpTo_box;exact rfl;intro b;skip))))
  generalize b = b1
  refine GO_relB (b:=b1) (e:=33) (cs:=[.slice A n c]) QK ?_
  intro h1 hle1 hc1
  (first|(apply GO_retR1;(iterate 3 exact rfl)))
  exact ⟨b1,rfl,hc1⟩
theorem valSeqI (h : Ro) (A : Option Addr) (n c : Nat) (l : List Int) (hx : SlOf encI 1 h A n l) (hn : n ≤ 1000000) (b1 : Nat) (hb1 : CellsAt h ⟨b1,0,none⟩ [.slice A n c]) : SeqR Tryz.prog 91 [.pointer (some ⟨b1,0,none⟩)] FRi l h:=by
  intro lid I Ix mI mIx hround Es h1 hle h0
  refine Fn_intro (args:=[_,_]) ts_ok Go.Proofs.Tryz.func91 rfl rfl fun w0 X0 => ?_
  have hlen:=hx.len
  have hd1:=hb1.le hle
  repeat' (first|apply GO_seq|apply GO_block|apply GO_region|apply GOl_nil|(apply GOl_pv;(iterate 3 exact rfl))|(apply GOl_ov;exact rfl;exact rfl;(first|(apply OV_load;exact rfl;exact Lv_ro rfl hd1 rfl));exact QA))
  refine GO_while (X:=Nat × List Asn × Ro) (fun x => x.1 ≤ n ∧ Le h x.2.2 ∧ I (l.take x.1) x.2.1 x.2.2) (fun x => n - x.1) (fun x => [(7,.int .i64 x.1),(6,.int .i64 n),(5,.slice A n c),(0,.func (.yield lid) #[] #[])])
    (fun x => x.2.1) (fun x => x.2.2) (0,Es,h1) ⟨by omega,hle,h0⟩ QS rfl rfl ?_
  rintro ⟨k,Es1,hk⟩ ⟨hkn,hlk,hI⟩ ih
  dsimp only at hkn hlk hI ih ⊢
  by_cases hkn2 : k < n
  · have a1:=hx.addrD hkn2
    have c1:=(hx.cellsD 0 hkn2).le hlk
    have et:=take7 0 hlen hkn2
    have hsplit:=take_split2 (l:=l) hlen hkn2
    generalize l.getD k 0 = p at *
    have hyl : Yl Tryz.prog lid [.int .i64 p] Es1 hk fun v Es' h' => (v = .bool true ∧ I (l.take (k + 1)) Es' h') ∨ (v = .bool false ∧ Ix (l.take (k + 1)) Es' h'):=by
      rw [et]
      exact hround _ _ _ _ _ _ hsplit hlk rfl hI
    repeat' (first|apply GO_seq|apply GO_skip|apply GO_inBlock|apply GO_block|apply GO_region|apply GOl_nil|(apply GOl_add;(iterate 3 exact rfl);omega;exact rfl;exact rfl)|(apply GOl_pv;(iterate 3 exact rfl))|(apply GOl_ov;exact rfl;exact rfl;(first|(apply OV_idxS (j:=k);(iterate 5 exact rfl);exact a1;(with_reducible exact rfl);omega)|(apply OV_load;exact rfl;exact Lv_ro rfl c1 rfl));exact QA)|(apply GOl_to;(iterate 3 exact rfl);(first|(refine OpTo_perm (Fs:=Es1 ++ []) (by rw [List.append_nil]) ?_;apply OpTo_yield (Es0:=Es1) (Fs:=[]);(iterate 3 exact rfl);exact hyl;rintro v E2 h2 hle2 (⟨rfl,hP⟩|⟨rfl,hP⟩);all_goals skip)))|(apply GO_cond;exact rfl;all_goals (intro hc;try simp only [hcS,reduceCtorEq] at hc;try (exfalso;omega))))
    all_goals first
      | (exfalso;omega)
      | (have h3:=ih (k + 1,E2,h2) ⟨by show k + 1 ≤ n;omega,hlk.trans hle2,hP⟩ (by show n - (k + 1) < n - k;omega)
         refine GO_perm (Fs:=E2) (by rw [List.append_nil]) ?_
         exact GO_keep QS h3)
      | (refine GO_perm (Fs:=E2) (by rw [List.append_nil]) ?_
         exact GO_retS (rs:=[]) (vs:=[]) (Fs:=E2) rfl rfl trivial (List.Sublist.refl _) (.inr ⟨l.take (k + 1),l.drop (k + 1),(List.take_append_drop _ _).symm,hP⟩))
  · rw [List.take_of_length_le (by omega)] at hI
    repeat' (first|apply GO_seq|apply GO_region|apply GOl_nil|(apply GO_exit;exact rfl)|(apply GOl_pv;(iterate 3 exact rfl))|(apply GO_cond;exact rfl;all_goals (intro hc;try simp only [hcS,reduceCtorEq] at hc;try (exfalso;omega))))
    exact GO_end (rs:=[]) (vs:=[]) rfl rfl trivial (.inl hI)
theorem appendSeqI_c (h : Ro) (g : FuncId) (hg : Has Tryz.prog g) (b1 : Nat) (xs : List Int) (hn : xs.length ≤ 1000000) (hs : SeqR Tryz.prog g [.pointer (some ⟨b1,0,none⟩)] FRi xs h) :
    Fn Tryz.prog 111 #[.slice none 0 0,.func (.func g) #[] #[.pointer (some ⟨b1,0,none⟩)]] [] h fun u Es _ => Es = [OwnS 3 1 u xs.length (xs.flatMap encI)]:=by
  refine Fn_intro (args:=[_,_]) ts_ok Go.Proofs.Tryz.func111 rfl rfl fun w0 X0 => ?_
  repeat' (first|apply GO_seq|apply GO_block|apply GO_region|apply GOl_nil|(apply GOl_pv;(iterate 3 exact rfl))|(apply GOl_to;(iterate 3 exact rfl);(first|(apply OpTo_box;exact rfl;intro b;skip))))
  generalize b = bT
  refine GO_nilS 3 1 ?_
  refine GO_take (Es':=[Blk bT 33 [.slice none 0 0],OwnS 3 1 (.slice none 0 0) 0 []]) QT ?_
  refine GO_rangeFuncR (R:=FRi) (xs:=xs) (gf:=g) (lb:=[.pointer (some ⟨b1,0,none⟩)]) rfl rfl hg hs (by rintro x u h2 rfl;rfl) rfl
    (fun pre Es h2 => ∃ (A : Option Addr) (c : Nat),Es = [Blk bT 33 [.slice A pre.length c],OwnS 3 1 (.slice A pre.length c) pre.length (pre.flatMap encI)]) (fun _ _ _ _ => False)
    (fun pre Es h2 h3 hl e => e) (fun _ _ _ _ _ _ h => h.elim) ⟨none,0,rfl⟩ ?_ ?_ (fun _ _ _ _ _ _ _ _ h => h.elim)
  · rintro lid r0 w1 X1 pre x post u Es1 h1 hxe rfl ⟨A,c,rfl⟩ hle hst
    have hpl : pre.length + 1 ≤ xs.length:=by rw [hxe];simp
    repeat' (first|apply GO_inBlock|apply GO_block|apply GO_region|apply GOl_nil|(apply GO_begin;exact rfl;exact QK;exact hst)|(apply GOl_pv;(iterate 3 exact rfl))|(apply GOl_load;exact rfl;exact Ld_blk rfl QM rfl;exact rfl;exact rfl)|(apply GOl_to;(iterate 3 exact rfl);(first|(apply OpTo_store;(iterate 3 exact rfl);exact QR;(iterate 3 exact rfl);skip)|(apply OpTo_buildSliceS (enc:=encI) (n:=1) [x];(iterate 3 exact rfl);exact List.cons_ne_nil _ _;(iterate 4 exact rfl);exact fun _ => rfl;exact rfl;exact rfl;intro b5 h5 hle5 hs5;skip)|(apply OpTo_appendS (enc:=encI) (xs:=pre);(iterate 7 exact rfl);exact hs5;exact fun _ => rfl;exact fun x => allOne_ok rfl;intro v1;exact QR;omega;exact rfl;intro A3 c3;skip))))
    all_goals
      refine GO_take (Es':=[LoopA lid { r0 with state:=.busy },Blk bT 33 [.slice A3 (pre.length + 1) c3],OwnS 3 1 (.slice A3 (pre.length + 1) c3) (pre.length + 1) ((pre ++ [x]).flatMap encI)]) QT (GO_rEnd (r0:=r0) rfl .here ⟨A3,c3,?_⟩)
      rw [List.length_append];rfl
  · rintro D h1 Es1 hle ⟨A,c,rfl⟩
    repeat' (first|apply GO_seq|apply GO_inBlock|apply GO_region|apply GOl_nil|(apply GOl_pv;(iterate 3 exact rfl))|(apply GOl_load;exact rfl;exact Ld_blk rfl QM rfl;exact rfl;exact rfl))
    all_goals
      refine GO_rt (Rt_mark rfl QK (Rt_S (rs:=[.tmp 4]) (vs:=[.slice A xs.length c]) (Fs:=[OwnS 3 1 (.slice A xs.length c) xs.length (xs.flatMap encI)]) rfl rfl ⟨rfl,trivial⟩ (by (repeat (first|exact List.Sublist.refl _|exact List.nil_sublist _|apply List.Sublist.cons_cons|apply List.Sublist.cons));done) rfl))
theorem collectI_c (h : Ro) (g : FuncId) (hg : Has Tryz.prog g) (b1 : Nat) (xs : List Int) (hn : xs.length ≤ 1000000) (hs : SeqR Tryz.prog g [.pointer (some ⟨b1,0,none⟩)] FRi xs h) :
    Fn Tryz.prog 89 #[.func (.func g) #[] #[.pointer (some ⟨b1,0,none⟩)]] [] h fun u Es _ => Es = [OwnS 3 1 u xs.length (xs.flatMap encI)]:=by
  refine Fn_intro (args:=[_]) ts_ok Go.Proofs.Tryz.func89 rfl rfl fun w0 X0 => ?_
  repeat' (first|apply GO_seq|apply GO_region|apply GOl_nil|(apply GOl_pv;(iterate 3 exact rfl))|(apply GOl_to;(iterate 3 exact rfl);(first|(apply OpTo_callP;exact rfl;exact has111;exact appendSeqI_c _ g hg b1 xs hn (hs.le (by first|exact Le.refl _|assumption|(repeat (first|assumption|(apply Le.trans;assumption)))));exact QT;rintro vc Ec hc1 hlc rfl;skip))))
  all_goals exact GO_retS1 rfl rfl rfl (.cons_cons _ (List.nil_sublist _)) rfl
theorem sortedI_c (h : Ro) (b1 : Nat) (xs : List Int) (hn : xs.length ≤ 1000000) (hs : SeqR Tryz.prog 91 [.pointer (some ⟨b1,0,none⟩)] FRi xs h) :
    Fn Tryz.prog 66 #[.func (.func 91) #[] #[.pointer (some ⟨b1,0,none⟩)]] [] h fun u Es _ => Es = [OwnS 3 1 u xs.length ((sortI xs).flatMap encI)]:=by
  refine Fn_intro (args:=[_]) ts_ok Go.Proofs.Tryz.func66 rfl rfl fun w0 X0 => ?_
  repeat' (first|apply GO_seq|apply GO_region|apply GOl_nil|(apply GOl_pv;(iterate 3 exact rfl))|(apply GOl_to;(iterate 3 exact rfl);(first|(apply OpTo_callP;exact rfl;exact has89;exact collectI_c _ _ has91 b1 xs hn (hs.le (by first|exact Le.refl _|assumption|(repeat (first|assumption|(apply Le.trans;assumption)))));exact QT;rintro vc Ec hc1 hlc rfl;skip)|(apply OpTo_callP;exact rfl;exact has90;exact sortInts 3 _ xs xs.length _ (by omega) rfl;exact QT;rintro vs Es9 hs9 hls ⟨rfl,rfl⟩;skip))))
  all_goals first
    | (exact GO_retS1 rfl rfl rfl (.cons_cons _ (List.nil_sublist _)) rfl)
theorem different1_c (h : Ro) (n : Int) : Val Tryz.prog 69 #[.int .i64 n] h (.bool (!decide (Bel n 192))):=by
  refine Val_intro (args:=[_]) ts_ok Go.Proofs.Tryz.func69 rfl rfl fun w0 X0 => ?_
  repeat' (first|apply GO_seq|apply GO_region|apply GOl_nil|(apply GOl_pv;(iterate 3 exact rfl))|(apply GOl_to;(iterate 3 exact rfl);(first|(apply OpTo_val;exact rfl;exact has29;exact isClub_c _ _;skip)))|(apply GO_retV1;(iterate 3 exact rfl)))
  all_goals rfl
theorem compact_full {ys : List Int} (hs : ys.Pairwise (· ≤ ·)) : (Lib.compact ys).length = ys.length ↔ ys.Nodup:=by
  constructor
  · intro h
    unfold Lib.compact Lib.compactUpTo at h
    rw [List.length_map] at h
    have h1 : ((List.range ys.length).filter (Lib.keeps ys.toArray)).length = (List.range ys.length).length:=by rw [h,List.length_range]
    have h2:=List.length_filter_eq_length_iff.1 h1
    have hst : ys.Pairwise (· < ·):=by
      rw [List.pairwise_iff_getElem] at hs ⊢
      intro i j hi hj hij
      have k1:=((keeps_iff ys j hj).1 (h2 j (List.mem_range.2 hj))).resolve_left (by omega)
      rw [List.getD_eq_getElem?_getD,List.getElem?_eq_getElem hj,List.getD_eq_getElem?_getD,List.getElem?_eq_getElem (show j - 1 < ys.length by omega),Option.getD_some,Option.getD_some] at k1
      have a2:=hs (j - 1) j (by omega) hj (by omega)
      by_cases e : i = j - 1
      · subst e;omega
      · have a1:=hs i (j - 1) hi (by omega) (by omega)
        omega
    exact hst.imp fun h => by omega
  · intro h
    exact Nat.le_antisymm (compact_len ys) (h.length_le_of_subset fun x hx => (compact_mem x).2 hx)
theorem clubs_sorted (cs : List Int) : ClubsOk cs ↔ (sortI cs).any (fun n => !decide (Bel n 192)) = false ∧ (Lib.compact (sortI cs)).length = cs.length:=by
  have hp : (sortI cs).Perm cs:=by unfold sortI;exact List.mergeSort_perm _ _
  unfold ClubsOk
  refine and_congr ?_ ?_
  · rw [List.any_eq_false]
    constructor
    · intro h x hx
      have:=h x (hp.mem_iff.1 hx)
      simpa using this
    · intro h x hx
      have:=h x (hp.mem_iff.2 hx)
      simpa using this
  · rw [← hp.nodup_iff,← hp.length_eq,compact_full (sortI_sorted cs)]
theorem different_c (h : Ro) (A : Option Addr) (n c : Nat) (cs : List Int) (hx : SlOf encI 1 h A n cs) (hn : n ≤ 1000) : Res Tryz.prog 38 #[.slice A n c] h (fun u _ => u = .bool (decide (ClubsOk cs))):=by
  refine Res_intro (args:=[_]) ts_ok Go.Proofs.Tryz.func38 rfl rfl fun w0 X0 => ?_
  have hlen:=hx.len
  have hsl:=sortI_len cs
  have hcl:=compact_len (sortI cs)
  have hco:=clubs_sorted cs
  have hcon:=fun h' v (hl : Le h h') => ValE_row (enc:=encI) (e:=3) (sz:=1) (v:=v) (xs:=sortI cs) (n:=n) (P:=Tryz.prog) (f:=68) (args:=#[v,.func (.func 69) #[] #[]]) (out:=.bool ((sortI cs).any fun n => !decide (Bel n 192))) (h:=h') (fun _ => rfl) (by rw [hsl,hlen]) (fun A' c' h1 hl e hnc hs => by
    subst e
    exact conFI_c h1 A' n c' (sortI cs) hs (by omega) 69 [] [] (fun n => !decide (Bel n 192)) has69 (fun x _ => different1_c h1 x))
  have hcom:=fun h' v => Fn.form (compactInts 3 v (sortI cs) n h' (by omega) (by rw [hsl,hlen]))
  have hsor:=fun h' b1 hb1 => Fn.form (sortedI_c h' b1 cs (by omega) hb1)
  have hvs:=fun h' (hl : Le h h') b1 hb1 => valSeqI h' A n c cs (hx.le hl) (by omega) b1 hb1
  rw [hlen] at hsor
  generalize sortI cs = ys at *
  generalize Lib.compact ys = zs at *
  generalize (ys.any fun n => !decide (Bel n 192)) = qa at *
  repeat' (first|apply GO_seq|apply GO_region|apply GOl_nil|(apply GOl_unwanted;exact rfl;exact rfl)|(apply GOl_pv;(iterate 3 exact rfl))|(apply GOl_to;(iterate 3 exact rfl);(first|(apply OpTo_res;exact rfl;exact has67;exact valuesI_c _ A n c;rintro v1 h1 hle1 ⟨b1,rfl,hb1⟩;skip)|(apply OpTo_callP;exact rfl;exact has66;exact hsor _ b1 (hvs _ (by first|exact Le.refl _|assumption|(repeat (first|assumption|(apply Le.trans;assumption)))) b1 hb1);exact QT;rintro v2 E2 h2 hle2 ⟨A2,c2,rfl,rfl⟩;skip)|(apply OpTo_valE (Es0:=[_]) (Fs:=[]);exact rfl;exact rfl;exact has68;exact hcon _ _ (by first|exact Le.refl _|assumption|(repeat (first|assumption|(apply Le.trans;assumption))));skip)|(apply OpTo_callP;exact rfl;exact has70;exact hcom _ _;exact QT;rintro v3 E3 h3 hle3 ⟨A3,c3,rfl,rfl⟩;skip)))|(apply GOl_split;exact rfl;exact rfl;all_goals (intro hc;try simp only [hcS,reduceCtorEq] at hc;try (exfalso;omega))))
  all_goals first
    | (refine GO_retR1 rfl rfl rfl ?_;refine dec_ofV ?_;rw [hco,hlen];simp [*,eqI_eq];done)
    | (refine GO_retR1 rfl rfl rfl ?_;refine dec_ofV ?_;rw [hco,hlen];simp [*,eqI_eq];omega)
def FRch (x : List Int) (u : List Value) (h : Ro) : Prop:=∃ A,u = [.slice A x.length x.length] ∧ SlOf encI 1 h A x.length x
theorem chunk_c (h : Ro) (A : Option Addr) (n c : Nat) : Res Tryz.prog 71 #[.slice A n c,.int .i64 2] h (fun u h' => ∃ bs bn,u = .func (.func 93) #[] #[.pointer (some ⟨bs,0,none⟩),.pointer (some ⟨bn,0,none⟩)] ∧ CellsAt h' ⟨bs,0,none⟩ [.slice A n c] ∧ CellsAt h' ⟨bn,0,none⟩ [.int .i64 2]):=by
  refine Res_intro (args:=[_,_]) ts_ok Go.Proofs.Tryz.func71 rfl rfl fun w0 X0 => ?_
  repeat' (first|apply GO_seq|apply GO_skip|apply GO_region|apply GOl_nil|(apply GOl_to;(iterate 3 exact rfl);apply OpTo_box (e:=33);exact rfl;intro bs)|(apply GOl_to;(iterate 3 exact rfl);apply OpTo_box (e:=3);exact rfl;intro bn)|(apply GOl_pv;(iterate 3 exact rfl))|(apply GOl_load;exact rfl;exact Ld_blk rfl QM rfl;exact rfl;exact rfl)|(apply GO_cond;exact rfl;all_goals (intro hc;try simp only [hcS,reduceCtorEq] at hc;try (exfalso;omega))))
  all_goals (try (exfalso;omega))
  refine GO_relB (b:=bs) (e:=33) (cs:=[.slice A n c]) QK ?_
  intro h1 hle1 hc1
  refine GO_relB (b:=bn) (e:=3) (cs:=[.int .i64 2]) QK ?_
  intro h2 hle2 hc2
  (first|(apply GO_retR1;(iterate 3 exact rfl)))
  exact ⟨bs,bn,rfl,hc1.le hle2,hc2⟩
theorem chunkSeq (h : Ro) (A : Option Addr) (n c : Nat) (l : List Int) (hx : SlOf encI 1 h A n l) (hnc : n ≤ c) (hn : n ≤ 1000000) (bs bn : Nat) (hbs : CellsAt h ⟨bs,0,none⟩ [.slice A n c]) (hbn : CellsAt h ⟨bn,0,none⟩ [.int .i64 2]) : SeqR Tryz.prog 93 [.pointer (some ⟨bs,0,none⟩),.pointer (some ⟨bn,0,none⟩)] FRch (chunk2 l) h:=by
  intro lid I Ix mI mIx hround Es h1 hle h0
  refine Fn_intro (args:=[_,_,_]) ts_ok Go.Proofs.Tryz.func93 rfl rfl fun w0 X0 => ?_
  have hlen:=hx.len
  repeat' (first|apply GO_seq|apply GO_block|apply GO_region|apply GOl_nil|(apply GOl_pv;(iterate 3 exact rfl)))
  refine GO_while (X:=Nat × List Asn × Ro) (fun x => 2 * x.1 ≤ n + 1 ∧ Le h x.2.2 ∧ I (chunk2 (l.take (2 * x.1))) x.2.1 x.2.2) (fun x => n + 2 - 2 * x.1) (fun x => [(4,.int .i64 ((2 * x.1 : Nat) : Int)),(0,.func (.yield lid) #[] #[]),(1,.pointer (some ⟨bs,0,none⟩)),(2,.pointer (some ⟨bn,0,none⟩))])
    (fun x => x.2.1) (fun x => x.2.2) (0,Es,h1) ⟨by dsimp only;omega,hle,by rw [Nat.mul_zero,List.take_zero];exact h0⟩ QS rfl rfl ?_
  rintro ⟨k,Es1,hk⟩ ⟨hkn,hlk,hI⟩ ih
  dsimp only at hkn hlk hI ih ⊢
  have hd1:=hbs.le hlk
  have hd2:=hbn.le hlk
  by_cases hkn2 : 2 * k < n
  · have hat:=chunk2_at (l:=l) (j:=k) (by omega)
    have htk:=chunk2_take (l:=l) (j:=k) (by omega)
    obtain ⟨e,he,hen,hel⟩ : ∃ e : Nat,(e = 1 ∨ e = 2) ∧ 2 * k + e ≤ n ∧ (e : Int) = min 2 ((n - 2 * k : Nat) : Int):=by
      by_cases q : 2 * k + 2 < n
      · exact ⟨2,.inr rfl,by omega,by omega⟩
      · exact ⟨n - 2 * k,by omega,by omega,by omega⟩
    have hmid:=(hx.mid (lo:=2 * k) (hi:=2 * k + e) (mx:=2 * k + e) (by omega) hen (Nat.le_refl _)).le hlk
    rw [show 2 * k + e - 2 * k = e by omega] at hmid
    have hte : (l.drop (2 * k)).take e = (l.drop (2 * k)).take 2:=by
      rcases he with e1|e1
      · have : n = 2 * k + 1:=by omega
        rw [List.take_of_length_le (by rw [List.length_drop];omega),List.take_of_length_le (by rw [List.length_drop];omega)]
      · rw [e1]
    rw [hte] at hmid
    have hml:=hmid.len
    have hyl : ∀ A',SlOf encI 1 hk A' e ((l.drop (2 * k)).take 2) → Yl Tryz.prog lid [.slice A' e e] Es1 hk fun v Es' h' => (v = .bool true ∧ I (chunk2 (l.take (2 * k + 2))) Es' h') ∨ (v = .bool false ∧ Ix (chunk2 (l.take (2 * k + 2))) Es' h'):=fun A' hs => by
      rw [htk]
      exact hround _ _ _ _ _ _ hat hlk ⟨A',by rw [hml],by rw [hml];exact hs⟩ hI
    have hyl:=hyl _ hmid
    have hyl : Yl Tryz.prog lid [.slice (sliceA A (2 * k + e) (2 * k) 1) (2 * k + e - 2 * k) (2 * k + e - 2 * k)] Es1 hk fun v Es' h' => (v = .bool true ∧ I (chunk2 (l.take (2 * k + 2))) Es' h') ∨ (v = .bool false ∧ Ix (chunk2 (l.take (2 * k + 2))) Es' h'):=by
      rw [show 2 * k + e - 2 * k = e by omega];exact hyl
    have hchunk : chunk2 l = chunk2 (l.take (2 * k + 2)) ++ chunk2 (l.drop (2 * k + 2)):=by rw [hat,htk,List.append_assoc];rfl
    clear hround hmid hat htk hte hml
    repeat' (first|apply GO_seq|apply GO_skip|apply GO_inBlock|apply GO_block|apply GO_region|apply GOl_nil|(apply GOl_add;(iterate 3 exact rfl);omega;exact rfl;exact rfl)|(apply GOl_pv;(iterate 3 exact rfl))|(apply GOl_ov;exact rfl;exact rfl;(first|(apply OV_load;exact rfl;exact Lv_ro rfl hd1 rfl)|(apply OV_slice3 (lo:=2 * k) (hi:=2 * k + e) (mx:=2 * k + e) (n:=n) (c:=c);(iterate 8 exact rfl);omega;omega;omega;omega;omega)|(apply OV_load;exact rfl;exact Lv_ro rfl (hd2.le (by first|exact Le.refl _|assumption|(repeat (first|assumption|(apply Le.trans;assumption))))) rfl));exact QA)|(apply GOl_to;(iterate 3 exact rfl);(first|(refine OpTo_perm (Fs:=Es1 ++ []) (by rw [List.append_nil]) ?_;apply OpTo_yield (Es0:=Es1) (Fs:=[]);(iterate 3 exact rfl);exact hyl;rintro v E2 h2 hle2 (⟨rfl,hP⟩|⟨rfl,hP⟩);all_goals skip)))|(apply GO_drawp (n:=3) [0,1,2,3,4,5,6] [(0,0),(1,0),(2,0),(3,0),(4,0),(5,0),(6,0)];kernel_rfl)|(apply GP_pv;exact rfl;kernel_rfl;(iterate 3 exact rfl))|(apply GP_ov;exact rfl;kernel_rfl;exact rfl;exact rfl;(first|(apply OV_load;exact rfl;exact Lv_ro rfl hd1 rfl)|(apply OV_load;exact rfl;exact Lv_ro rfl hd2 rfl)|(apply OV_sliceLo (lo:=2 * k) (n:=n) (c:=c);(iterate 6 exact rfl);omega));exact QA)|(apply GP_done;kernel_rfl;exact rfl)|(apply GO_cond;exact rfl;all_goals (intro hc;try simp only [hcS,reduceCtorEq] at hc;try (exfalso;omega))))
    all_goals first
      | (exfalso;omega)
      | (have h3:=ih (k + 1,E2,h2) ⟨by show 2 * (k + 1) ≤ n + 1;omega,hlk.trans hle2,hP⟩ (by show n + 2 - 2 * (k + 1) < n + 2 - 2 * k;omega)
         dsimp only at h3
         rw [show ((2 * (k + 1) : Nat) : Int) = ((2 * k : Nat) : Int) + 2 by omega] at h3
         refine GO_perm (Fs:=E2) (by rw [List.append_nil]) ?_
         exact GO_keep QS h3)
      | (refine GO_perm (Fs:=E2) (by rw [List.append_nil]) ?_
         exact GO_retS (rs:=[]) (vs:=[]) (Fs:=E2) rfl rfl trivial (List.Sublist.refl _) (.inr ⟨chunk2 (l.take (2 * k + 2)),chunk2 (l.drop (2 * k + 2)),hchunk,hP⟩))
  · rw [List.take_of_length_le (by omega)] at hI
    clear ih hround
    repeat' (first|apply GO_seq|apply GO_region|apply GOl_nil|(apply GO_exit;exact rfl)|(apply GOl_pv;(iterate 3 exact rfl))|(apply GOl_ov;exact rfl;exact rfl;(first|(apply OV_load;exact rfl;exact Lv_ro rfl hd1 rfl));exact QA)|(apply GO_cond;exact rfl;all_goals (intro hc;try simp only [hcS,reduceCtorEq] at hc;try (exfalso;omega))))
    all_goals first
      | (exfalso;omega)
      | (exact GO_end (rs:=[]) (vs:=[]) rfl rfl trivial (.inl hI))
theorem meet_c (h : Ro) (a b : Int) : Val Tryz.prog 40 #[.int .i64 a,.int .i64 b] h (duelV sli0 ⟨a,b,[]⟩):=by
  refine Val_intro (args:=[_,_]) ts_ok Go.Proofs.Tryz.func40 rfl rfl fun w0 X0 => ?_
  repeat' (first|apply GO_seq|apply GO_region|apply GOl_nil|(apply GOl_pv;(iterate 3 exact rfl))|(apply GOl_to;(iterate 3 exact rfl);(first|(apply OpTo_store;(iterate 3 exact rfl);exact QR;(iterate 3 exact rfl);skip)|(apply OpTo_alloc;exact rfl;intro b;skip)))|(apply GO_retC1;(iterate 3 exact rfl);exact QM;exact rfl;exact rfl))
  all_goals rfl
def RdOut (h : Ro) (u : Value) (l : List FDuel) : Prop:=∃ r : RdS,u = .slice r.1.A r.1.n r.1.c ∧ RdAt h r ∧ duels r.2 = l
def dus0 (l : List FDuel) : List DuS:=l.map fun d => (sli0,d)
theorem dus0_duels (l : List FDuel) : duels (dus0 l) = l:=by unfold duels dus0;rw [List.map_map];simp [Function.comp_def]
theorem dus0_len (l : List FDuel) : (dus0 l).length = l.length:=by unfold dus0;exact List.length_map _
theorem dus0_app (l r : List FDuel) : dus0 (l ++ r) = dus0 l ++ dus0 r:=by unfold dus0;exact List.map_append
theorem dus0_at {h : Ro} {A : Option Addr} {n : Nat} {l : List FDuel} (hl : ∀ d ∈ l,d.ls = []) (hs : SlOf encDu 3 h A n (dus0 l)) : DusAt h A n (dus0 l):=⟨hs,fun p hp => by
  obtain ⟨d,hd,rfl⟩:=List.mem_map.1 hp
  refine ⟨?_,Nat.le_refl _⟩
  rw [show (sli0,d).2.ls = [] from hl d hd]
  exact SlOf.nil⟩
theorem pair_c (h : Ro) (A : Option Addr) (n c : Nat) (l : List Int) (hx : SlOf encI 1 h A n l) (hnc : n ≤ c) (hn : n ≤ 1000000) : Res Tryz.prog 39 #[.slice A n c,.func (.func 40) #[] #[]] h (fun u h' => RdOut h' u (pairD l)):=by
  refine Res_intro (args:=[_,_]) ts_ok Go.Proofs.Tryz.func39 rfl rfl fun w0 X0 => ?_
  have hlen:=hx.len
  have hck:=chunk_c h A n c
  have hsq:=fun h' (hl : Le h h') bs bn hbs hbn => chunkSeq h' A n c l (hx.le hl) hnc hn bs bn hbs hbn
  refine GO_nilS 24 3 ?_
  repeat' (first|apply GO_seq|apply GO_block|apply GO_region|apply GOl_nil|(apply GOl_to;(iterate 3 exact rfl);apply OpTo_box (e:=77);exact rfl;intro bJ)|(apply GOl_to;(iterate 3 exact rfl);apply OpTo_alloc (e:=53);exact rfl;intro bO)|(apply GOl_pv;(iterate 3 exact rfl))|(apply GOl_to;(iterate 3 exact rfl);(first|(apply OpTo_res;exact rfl;exact has71;exact hck;rintro v2 h2 hle2 ⟨bs,bn,rfl,hbs,hbn⟩;skip))))
  have hsq2:=hsq h2 (by first|exact Le.refl _|assumption|(repeat (first|assumption|(apply Le.trans;assumption)))) bs bn hbs hbn
  have hcm : ∀ x ∈ chunk2 l,x.length = 1 ∨ x.length = 2:=fun x hx => chunk2_len hx
  have hcn:=chunk2_lenle l
  have hjc:=joinC_chunk l
  generalize chunk2 l = xs at *
  clear hsq hck
  refine GO_take (Es':=[Blk bO 53 [.slice none 0 0],Blk bJ 77 [.func (.func 40) #[] #[]],OwnS 24 3 (.slice none 0 0) 0 []]) QT ?_
  refine GO_rangeFuncR (R:=FRch) (xs:=xs) (gf:=93) (lb:=[.pointer (some ⟨bs,0,none⟩),.pointer (some ⟨bn,0,none⟩)]) rfl rfl has93 hsq2 (by rintro x u h2 ⟨A7,rfl,_⟩;rfl) rfl
    (fun pre Es h2 => ∃ (A : Option Addr) (c : Nat),Es = [Blk bO 53 [.slice A (joinC pre).length c],Blk bJ 77 [.func (.func 40) #[] #[]],OwnS 24 3 (.slice A (joinC pre).length c) (joinC pre).length ((dus0 (joinC pre)).flatMap encDu)]) (fun _ _ _ _ => False)
    (fun pre Es h2 h3 hl e => e) (fun _ _ _ _ _ _ h => h.elim) ⟨none,0,rfl⟩ ?_ ?_ (fun _ _ _ _ _ _ _ _ h => h.elim)
  · rintro lid r0 w1 X1 pre x post u Es1 h1 hxe ⟨A7,rfl,hs7⟩ ⟨A,c,rfl⟩ hle hst
    have hpl : pre.length + 1 ≤ xs.length:=by rw [hxe];simp
    have hjl:=joinC_len pre
    have hxm:=hcm x (by rw [hxe];simp)
    have hjs:=joinC_snoc pre x
    have hdl:=dus0_len (joinC pre)
    match x,hxm with
    | [a],_ =>
      rw [show joinC1 [a] = [] from rfl,List.append_nil] at hjs
      repeat' (first|apply GO_seq|apply GO_skip|apply GO_inBlock|apply GO_block|apply GO_region|apply GOl_nil|(apply GO_begin;exact rfl;exact QK;exact hst)|(apply GOl_pv;(iterate 3 exact rfl))|(apply GO_drawp (n:=4) [0,1,2,3,4,5,6,7,8,9,10,11] [(0,0),(1,0),(2,0),(3,0),(4,0),(5,0),(6,0),(7,0),(8,1),(9,1),(10,1),(11,1)];kernel_rfl)|(apply GP_pv;exact rfl;kernel_rfl;(iterate 3 exact rfl))|(apply GP_loadB;exact rfl;kernel_rfl;(iterate 3 exact rfl);exact QM;exact rfl;exact rfl)|(apply GO_cond;exact rfl;all_goals (intro hc;try simp only [hcS,reduceCtorEq] at hc;try (exfalso;omega))))
      all_goals (try (exfalso;simp at hc;done))
      all_goals
        refine GO_rEnd (r0:=r0) rfl .here ⟨A,c,?_⟩
        rw [hjs]
    | [a,b],_ =>
      rw [show joinC1 [a,b] = [⟨a,b,[]⟩] from rfl] at hjs
      have a1:=hs7.addrD (show 0 < [a,b].length by simp)
      have c1:=hs7.cellsD 0 (show 0 < [a,b].length by simp)
      have c2:=hs7.cellsD 0 (show 1 < [a,b].length by simp)
      have hme:=meet_c h1 a b
      rw [show ([a,b] : List Int).getD 0 0 = a from rfl] at c1
      rw [show ([a,b] : List Int).getD 1 0 = b from rfl] at c2
      repeat' (first|apply GO_seq|apply GO_skip|apply GO_inBlock|apply GO_block|apply GO_region|apply GOl_nil|(apply GO_begin;exact rfl;exact QK;exact hst)|(apply GOl_pv;(iterate 3 exact rfl))|(apply GO_drawp (n:=4) [0,1,2,3,4,5,6,7,8,9,10,11] [(0,0),(1,0),(2,0),(3,0),(4,0),(5,0),(6,0),(7,0),(8,1),(9,1),(10,1),(11,1)];kernel_rfl)|(apply GP_pv;exact rfl;kernel_rfl;(iterate 3 exact rfl))|(apply GP_loadB;exact rfl;kernel_rfl;(iterate 3 exact rfl);exact QM;exact rfl;exact rfl)|(apply GP_ov;exact rfl;kernel_rfl;exact rfl;exact rfl;(first|(apply OV_idxS (j:=0) (n:=2);(iterate 5 exact rfl);exact a1;omega;omega)|(apply OV_idxS (j:=1) (n:=2);(iterate 5 exact rfl);exact a1;omega;omega)|(apply OV_load;exact rfl;exact Lv_ro rfl (c1.le (by first|exact Le.refl _|assumption|(repeat (first|assumption|(apply Le.trans;assumption))))) rfl)|(apply OV_load;exact rfl;exact Lv_ro rfl (c2.le (by first|exact Le.refl _|assumption|(repeat (first|assumption|(apply Le.trans;assumption))))) rfl));exact QA)|(apply GP_real;exact rfl;kernel_rfl;(iterate 3 exact rfl);(first|(apply OpTo_store;(iterate 3 exact rfl);exact QR;(iterate 3 exact rfl);refine ⟨Le.refl _,QN,?_⟩)|(apply OpTo_valF (f:=40) (fs:=[]) (cs:=[]);exact rfl;exact rfl;exact has40;exact meet_c _ a b;refine ⟨Le.refl _,QN,?_⟩)|(apply OpTo_buildSliceS (enc:=encDu) (n:=1) [(sli0,⟨a,b,[]⟩)];(iterate 3 exact rfl);exact List.cons_ne_nil _ _;(iterate 4 exact rfl);exact fun _ => rfl;exact rfl;exact rfl;intro b5 h5 hle5 hs5;refine ⟨hle5,QN,?_⟩)|(apply OpTo_appendS (enc:=encDu) (xs:=dus0 (joinC pre));(iterate 7 exact rfl);exact hs5;exact encDu_len;exact encDu_one;intro v1;exact QR;omega;exact rfl;intro A3 c3;refine ⟨Le.refl _,QN,?_⟩)))|(apply GP_done;kernel_rfl;exact rfl)|(apply GO_cond;exact rfl;all_goals (intro hc;try simp only [hcS,reduceCtorEq] at hc;try (exfalso;omega))))
      all_goals (try (exfalso;simp at hc;done))
      all_goals
        refine GO_take (Es':=[LoopA lid { r0 with state:=.busy },Blk bO 53 [.slice A3 ((joinC pre).length + 1) c3],Blk bJ 77 [.func (.func 40) #[] #[]],OwnS 24 3 (.slice A3 ((joinC pre).length + 1) c3) ((joinC pre).length + 1) ((dus0 (joinC pre) ++ [((sli0,(⟨a,b,[]⟩ : FDuel)) : DuS)]).flatMap encDu)]) QT (GO_rEnd (r0:=r0) rfl .here ⟨A3,c3,?_⟩)
        rw [hjs,List.length_append,dus0_app];rfl
  · rintro D h1 Es1 hle ⟨A,c,rfl⟩
    rw [hjc]
    repeat' (first|apply GO_seq|apply GO_inBlock|apply GO_region|apply GOl_nil|(apply GOl_load;exact rfl;exact Ld_blk rfl QM rfl;exact rfl;exact rfl)|(apply GOl_to;(iterate 3 exact rfl);(first|(apply OpTo_store;(iterate 3 exact rfl);exact QR;(iterate 3 exact rfl);skip))))
    all_goals
      refine GO_relC (enc:=encDu) (e:=24) (sz:=3) (n:=(pairD l).length) (xs:=dus0 (pairD l)) encDu_len (dus0_len _) QK ?_
      intro A9 c9 h9 hle9 e9 hnc9 hs9
      cases e9
      refine GO_rt (Rt_mark rfl QK (Rt_S (rs:=[.cell 4 53]) (vs:=[.slice A (pairD l).length c]) rfl rfl ⟨⟨_,rfl,Ld_blk rfl QM rfl⟩,trivial⟩ (List.nil_sublist _) ⟨rfl,⟨⟨A,(pairD l).length,c⟩,dus0 (pairD l)⟩,rfl,⟨dus0_at (pairD_ls l) hs9,hnc9⟩,dus0_duels _⟩))
def bits7 (n : Nat) : Int:=(((List.range 8).filter fun i => n.testBit i).length : Nat)
theorem bits7_pow : ∀ n : Nat,n < 129 → 2 ≤ n → (bits7 n = 1 ↔ IsPow n):=by decide +kernel
theorem wrap_rng (q : Int) : 0 ≤ IntKind.u64.wrap q ∧ IntKind.u64.wrap q < 18446744073709551616:=by
  rw [wrap_mod];omega
theorem OV_shrP {C : Ctx} {l : Sl} {h : Ro} {ty : TypeId} {pos : String} {aft : Array Edge} {gd : Option (Nat × Bool)} {dst : Option Tmp} {t ty' : TypeId} {x y : Operand} {k : IntKind} {i p : Int} {n : Nat} (hx : evl l x = some (.int .u64 p)) (hy : evl l y = some (.int k i)) (hi : i = (n : Int)) (hp : 0 ≤ p ∧ p < 18446744073709551616) :
    OV C l [] h ⟨dst,.binOp .shr t x y ty',ty,pos,aft,gd⟩ (.int .u64 ((p.toNat >>> n : Nat) : Int)):=by
  have e : (((BitVec.ofNat 64 p.toNat).toNat : Nat) : Int) = p:=by rw [BitVec.toNat_ofNat,Nat.mod_eq_of_lt (by omega)];omega
  have h1:=OV_shr64 (C:=C) (l:=l) (h:=h) (ty:=ty) (pos:=pos) (aft:=aft) (gd:=gd) (dst:=dst) (t:=t) (ty':=ty') (x:=x) (y:=y) (a:=BitVec.ofNat 64 p.toNat) (by rw [hx];show some (Value.int .u64 p) = some (.int .u64 (((BitVec.ofNat 64 p.toNat).toNat : Nat) : Int));rw [e]) hy hi
  have e2 : (BitVec.ofNat 64 p.toNat >>> n).toNat = p.toNat >>> n:=by rw [BitVec.toNat_ushiftRight,BitVec.toNat_ofNat,Nat.mod_eq_of_lt (by omega)]
  have h3 : OV C l [] h ⟨dst,.binOp .shr t x y ty',ty,pos,aft,gd⟩ (.int .u64 (((BitVec.ofNat 64 p.toNat >>> n).toNat : Nat) : Int)):=h1
  rw [e2] at h3
  exact h3
theorem ones64_c (h : Ro) (n : Nat) (hn : n < 129) : Val Tryz.prog 65 #[.int .u64 (n : Int)] h (.int .i64 (bits7 n)):=by
  refine Val_intro (args:=[_]) ts_ok Go.Proofs.Tryz.func65 rfl rfl fun w0 X0 => ?_
  repeat' (first|apply GO_seq|apply GO_region|apply GOl_nil|(apply GOl_ov;exact rfl;exact rfl;(first|(apply OV_shrP (n:=1);(iterate 3 exact rfl);(constructor <;> omega))|(apply OV_shrP (n:=2);(iterate 3 exact rfl);exact wrap_rng _)|(apply OV_shrP (n:=4);(iterate 3 exact rfl);exact wrap_rng _)|(apply OV_shrP (n:=8);(iterate 3 exact rfl);exact wrap_rng _)|(apply OV_shrP (n:=16);(iterate 3 exact rfl);exact wrap_rng _)|(apply OV_shrP (n:=32);(iterate 3 exact rfl);exact wrap_rng _));exact QA)|(apply GOl_pv;(iterate 3 exact rfl)))
  all_goals first
    | (refine GO_retV1 rfl rfl rfl ?_;congr 1;clear h w0 X0;revert hn;revert n;decide +kernel)
theorem ones_c (h : Ro) (n : Nat) (hn : n < 129) : Val Tryz.prog 37 #[.int .u64 (n : Int)] h (.int .i64 (bits7 n)):=by
  refine Val_intro (args:=[_]) ts_ok Go.Proofs.Tryz.func37 rfl rfl fun w0 X0 => ?_
  have hv:=ones64_c h n hn
  repeat' (first|apply GO_seq|apply GO_skip|apply GO_region|apply GOl_nil|(apply GOl_pv;(iterate 3 exact rfl))|(apply GOl_to;(iterate 3 exact rfl);(first|(apply OpTo_val;exact rfl;exact has65;exact hv;skip)))|(apply GO_cond;exact rfl;all_goals (intro hc;try simp only [hcS,reduceCtorEq] at hc;try (exfalso;omega)))|(apply GO_retV1;(iterate 3 exact rfl)))
  all_goals rfl
end Go.Hw
set_option linter.unusedVariables false
set_option linter.unusedSimpArgs false
set_option maxRecDepth 100000
set_option maxHeartbeats 8000000
namespace Go.Hw
open Go
attribute [local irreducible] GO GOl GDp Val Fn Res CellsAt ValE Blk OwnS MapA OwnPf Has Yl
open Go.Proofs (Tryz.prog)
theorem newB_tie {cs : List Int} {t : FTie} (h : ¬ IsTie t) : newB cs t = (br0,210):=by unfold newB;rw [if_neg h]
theorem newB_bad {cs : List Int} {t : FTie} (h : IsTie t) (k : ¬ (IsPow cs.length ∧ ClubsOk cs)) : newB cs t = (br0,190):=by unfold newB;rw [if_pos h,if_neg k]
theorem newB_good {cs : List Int} {t : FTie} (h : IsTie t) (k : IsPow cs.length ∧ ClubsOk cs) : newB cs t = (⟨t,[pairD cs]⟩,0):=by unfold newB;rw [if_pos h,if_pos k]
theorem brOut_zero (h : Ro) (e : Int) : BrOut h (.tuple #[brV sli0 tie0,.int .i64 e]) br0 e:=⟨sli0,[],rfl,BrAt.zero h⟩
theorem brOut_one {h : Ro} {b : Nat} {r : RdS} {t : FTie} {l : List FDuel} (hs : SlOf encRd 1 h (some ⟨b,0,none⟩) 1 [r]) (hr : RdAt h r) (hd : duels r.2 = l) : BrOut h (.tuple #[brV ⟨some ⟨b,0,none⟩,1,1⟩ t,.int .i64 0]) ⟨t,[l]⟩ 0 :=
  ⟨⟨some ⟨b,0,none⟩,1,1⟩,[r],rfl,⟨⟨hs,fun q hq => by rw [List.mem_singleton] at hq;rw [hq];exact hr⟩,by unfold rounds;rw [List.map_cons,List.map_nil,hd],Nat.le_refl _⟩⟩
theorem new_c (h : Ro) (A : Option Addr) (n c : Nat) (cs : List Int) (t : FTie) (hx : SlOf encI 1 h A n cs) (hnc : n ≤ c) : Res Tryz.prog 14 #[.slice A n c,tieV t] h (fun u h' => BrOut h' u (newB cs t).1 (newB cs t).2):=by
  refine Res_intro (args:=[_,_]) ts_ok Go.Proofs.Tryz.func14 rfl rfl fun w0 X0 => ?_
  have hlen:=hx.len
  have hr:=isRules_c h t
  by_cases hT : IsTie t
  · rw [decide_eq_true hT] at hr
    by_cases hsz : 2 ≤ n ∧ n ≤ 128
    · obtain ⟨hz1,hz2⟩:=hsz
      have hon:=fun h' => ones_c h' n (by omega)
      have hbp:=bits7_pow n (by omega) hz1
      have hdi:=fun h' (hl : Le h h') => different_c h' A n c cs (hx.le hl) (by omega)
      have hpa:=fun h' (hl : Le h h') => pair_c h' A n c cs (hx.le hl) hnc (by omega)
      generalize bits7 n = q at *
      by_cases hp : IsPow n
      · have hq1:=hbp.2 hp
        by_cases hcl : ClubsOk cs
        · rw [newB_good hT ⟨by rw [hlen];exact hp,hcl⟩]
          simp only [decide_eq_true hcl] at hdi
          dsimp only
          clear hbp hp hcl hx
          repeat' (first|apply GO_seq|apply GO_skip|apply GO_inBlock|apply GO_block|apply GO_region|apply GOl_nil|(apply GOl_to;(iterate 3 exact rfl);apply OpTo_box (e:=26);exact rfl;intro b3)|(apply GOl_to;(iterate 3 exact rfl);apply OpTo_alloc (e:=36);exact rfl;intro b4)|(apply GOl_ov;exact rfl;exact rfl;(first|(apply OV_convI;(iterate 4 exact rfl);exact wrap_nat64 (by omega)));exact QA)|(apply GOl_pv;(iterate 3 exact rfl))|(apply GOl_load;exact rfl;exact Ld_blk rfl QM rfl;exact rfl;exact rfl)|(apply GOl_to;(iterate 3 exact rfl);(first|(apply OpTo_val;exact rfl;exact has28;exact hr;skip)|(apply OpTo_val;exact rfl;exact has37;exact hon _;skip)|(apply OpTo_res;exact rfl;exact has38;exact hdi _ (by first|exact Le.refl _|assumption|(repeat (first|assumption|(apply Le.trans;assumption))));rintro v2 h2 hle2 rfl;skip)))|(apply GO_drawp (n:=6) [0,1,2,3,4,5,6] [(0,0),(1,0),(2,1),(3,1),(4,0),(5,1),(6,0)];kernel_rfl)|(apply GP_pv;exact rfl;kernel_rfl;(iterate 3 exact rfl))|(apply GP_loadB;exact rfl;kernel_rfl;(iterate 3 exact rfl);exact QM;exact rfl;exact rfl)|(apply GP_real;exact rfl;kernel_rfl;(iterate 3 exact rfl);(first|(apply OpTo_store;(iterate 3 exact rfl);exact QR;(iterate 3 exact rfl);refine ⟨Le.refl _,QN,?_⟩)|(apply OpTo_res;exact rfl;exact has39;exact hpa _ (by first|exact Le.refl _|assumption|(repeat (first|assumption|(apply Le.trans;assumption))));rintro v3 h3 hle3 ⟨r,rfl,hr3,hd3⟩;refine ⟨hle3,QN,?_⟩)|(apply OpTo_buildSliceS (enc:=encRd) (n:=1) [r];(iterate 3 exact rfl);exact List.cons_ne_nil _ _;(iterate 4 exact rfl);exact fun _ => rfl;exact rfl;exact rfl;intro b5 h5 hle5 hs5;refine ⟨hle5,QN,?_⟩)))|(apply GP_done;kernel_rfl;exact rfl)|(apply GO_cond;exact rfl;all_goals (intro hc;try simp only [hcS,reduceCtorEq] at hc;try (exfalso;omega)))|(apply GOl_split;exact rfl;exact rfl;all_goals (intro hc;try simp only [hcS,reduceCtorEq] at hc;try (exfalso;omega))))
          all_goals first
            | (exfalso;simp at hc;done)
            | (exfalso;omega)
            | (exact GO_retRC2 rfl rfl rfl QM rfl rfl rfl (brOut_one hs5 (hr3.le hle5) hd3))
        · rw [newB_bad hT (fun k => hcl k.2)]
          simp only [decide_eq_false hcl] at hdi
          dsimp only
          clear hbp hp hcl hx hpa
          repeat' (first|apply GO_seq|apply GO_block|apply GO_region|apply GOl_nil|(apply GOl_to;(iterate 3 exact rfl);apply OpTo_box (e:=26);exact rfl;intro b3)|(apply GOl_to;(iterate 3 exact rfl);apply OpTo_alloc (e:=36);exact rfl;intro b4)|(apply GOl_ov;exact rfl;exact rfl;(first|(apply OV_convI;(iterate 4 exact rfl);exact wrap_nat64 (by omega)));exact QA)|(apply GOl_pv;(iterate 3 exact rfl))|(apply GOl_load;exact rfl;exact Ld_blk rfl QM rfl;exact rfl;exact rfl)|(apply GOl_to;(iterate 3 exact rfl);(first|(apply OpTo_store;(iterate 3 exact rfl);exact QR;(iterate 3 exact rfl);skip)|(apply OpTo_val;exact rfl;exact has28;exact hr;skip)|(apply OpTo_val;exact rfl;exact has37;exact hon _;skip)|(apply OpTo_res;exact rfl;exact has38;exact hdi _ (by first|exact Le.refl _|assumption|(repeat (first|assumption|(apply Le.trans;assumption))));rintro v2 h2 hle2 rfl;skip)))|(apply GO_cond;exact rfl;all_goals (intro hc;try simp only [hcS,reduceCtorEq] at hc;try (exfalso;omega)))|(apply GOl_split;exact rfl;exact rfl;all_goals (intro hc;try simp only [hcS,reduceCtorEq] at hc;try (exfalso;omega))))
          all_goals first
            | (exfalso;simp at hc;done)
            | (exfalso;omega)
            | (exact GO_retRC2 rfl rfl rfl QM rfl rfl rfl (brOut_zero _ _))
      · have hq1:=fun k => hp (hbp.1 k)
        rw [newB_bad hT (fun k => hp (hlen ▸ k.1))]
        dsimp only
        clear hbp hp hx hpa hdi
        repeat' (first|apply GO_seq|apply GO_block|apply GO_region|apply GOl_nil|(apply GOl_to;(iterate 3 exact rfl);apply OpTo_box (e:=26);exact rfl;intro b3)|(apply GOl_to;(iterate 3 exact rfl);apply OpTo_alloc (e:=36);exact rfl;intro b4)|(apply GOl_ov;exact rfl;exact rfl;(first|(apply OV_convI;(iterate 4 exact rfl);exact wrap_nat64 (by omega)));exact QA)|(apply GOl_unwanted;exact rfl;exact rfl)|(apply GOl_pv;(iterate 3 exact rfl))|(apply GOl_load;exact rfl;exact Ld_blk rfl QM rfl;exact rfl;exact rfl)|(apply GOl_to;(iterate 3 exact rfl);(first|(apply OpTo_store;(iterate 3 exact rfl);exact QR;(iterate 3 exact rfl);skip)|(apply OpTo_val;exact rfl;exact has28;exact hr;skip)|(apply OpTo_val;exact rfl;exact has37;exact hon _;skip)|(exfalso;exact hq1 (by assumption))))|(apply GO_cond;exact rfl;all_goals (intro hc;try simp only [hcS,reduceCtorEq] at hc;try (exfalso;omega)))|(apply GOl_split;exact rfl;exact rfl;all_goals (intro hc;try simp only [hcS,reduceCtorEq] at hc;try (exfalso;omega))))
        all_goals first
          | (exfalso;simp at hc;done)
          | (exfalso;omega)
          | (exfalso;exact hq1 (by assumption))
          | (exact GO_retRC2 rfl rfl rfl QM rfl rfl rfl (brOut_zero _ _))
    · rw [newB_bad hT (fun k => by have:=k.1;unfold IsPow at this;omega)]
      dsimp only
      repeat' (first|apply GO_seq|apply GO_block|apply GO_region|apply GOl_nil|(apply GOl_to;(iterate 3 exact rfl);apply OpTo_box (e:=26);exact rfl;intro b3)|(apply GOl_to;(iterate 3 exact rfl);apply OpTo_alloc (e:=36);exact rfl;intro b4)|(apply GOl_unwanted;exact rfl;exact rfl)|(apply GOl_pv;(iterate 3 exact rfl))|(apply GOl_load;exact rfl;exact Ld_blk rfl QM rfl;exact rfl;exact rfl)|(apply GOl_to;(iterate 3 exact rfl);(first|(apply OpTo_store;(iterate 3 exact rfl);exact QR;(iterate 3 exact rfl);skip)|(apply OpTo_val;exact rfl;exact has28;exact hr;skip)))|(apply GO_cond;exact rfl;all_goals (intro hc;try simp only [hcS,reduceCtorEq] at hc;try (exfalso;omega)))|(apply GOl_split;exact rfl;exact rfl;all_goals (intro hc;try simp only [hcS,reduceCtorEq] at hc;try (exfalso;omega))))
      all_goals first
        | (exfalso;simp at hc;done)
        | (exfalso;omega)
        | (exact GO_retRC2 rfl rfl rfl QM rfl rfl rfl (brOut_zero _ _))
  · rw [decide_eq_false hT] at hr
    rw [newB_tie hT]
    dsimp only
    repeat' (first|apply GO_seq|apply GO_block|apply GO_region|apply GOl_nil|(apply GOl_to;(iterate 3 exact rfl);apply OpTo_box (e:=26);exact rfl;intro b3)|(apply GOl_to;(iterate 3 exact rfl);apply OpTo_alloc (e:=36);exact rfl;intro b4)|(apply GOl_pv;(iterate 3 exact rfl))|(apply GOl_load;exact rfl;exact Ld_blk rfl QM rfl;exact rfl;exact rfl)|(apply GOl_to;(iterate 3 exact rfl);(first|(apply OpTo_store;(iterate 3 exact rfl);exact QR;(iterate 3 exact rfl);skip)|(apply OpTo_val;exact rfl;exact has28;exact hr;skip)))|(apply GO_cond;exact rfl;all_goals (intro hc;try simp only [hcS,reduceCtorEq] at hc;try (exfalso;omega))))
    all_goals first
      | (exfalso;simp at hc;done)
      | (exfalso;omega)
      | (exact GO_retRC2 rfl rfl rfl QM rfl rfl rfl (brOut_zero _ _))
end Go.Hw
set_option linter.unusedVariables false
set_option linter.unusedSimpArgs false
set_option maxRecDepth 100000
set_option maxHeartbeats 8000000
namespace Go.Hw
open Go
attribute [local irreducible] GO GOl GDp Val Fn Res CellsAt ValE Blk OwnS MapA OwnPf Has Yl
open Go.Proofs (Tryz.prog)
theorem nextR_eq {l : List FDuel} {t : FTie} {cs : List Int} (h : winsR l t = some cs) : nextR l t = if 2 ≤ cs.length then some (pairD cs) else none:=by unfold nextR;rw [h]
theorem nextR_no {l : List FDuel} {t : FTie} (h : winsR l t = none) : nextR l t = none:=by unfold nextR;rw [h]
theorem follow_c (h : Ro) (A : Option Addr) (n c : Nat) (l : List DuS) (t : FTie) (hx : DusAt h A n l) (hn : n ≤ 128) (hg : ∀ p ∈ l,DuG h p.1 p.2) :
    Res Tryz.prog 52 #[.slice A n c,tieV t] h (fun u h' => ∃ r : RdS,u = .tuple #[.slice r.1.A r.1.n r.1.c,.bool (nextR (duels l) t).isSome] ∧ RdAt h' r ∧ ∀ m,nextR (duels l) t = some m → duels r.2 = m):=by
  refine Res_intro (args:=[_,_]) ts_ok Go.Proofs.Tryz.func52 rfl rfl fun w0 X0 => ?_
  have hlen:=hx.row.len
  have hrow:=hx.row
  refine GO_nilS 3 1 ?_
  repeat' (first|apply GO_seq|apply GO_block|apply GO_region|apply GOl_nil|(apply GOl_to;(iterate 3 exact rfl);apply OpTo_box (e:=26);exact rfl;intro b3)|(apply GOl_pv;(iterate 3 exact rfl)))
  refine GO_loopT (X:=Nat × List Int × Option Addr × Nat × Ro) (fun x => x.1 ≤ n ∧ Le h x.2.2.2.2 ∧ winsR (duels (l.take x.1)) t = some x.2.1) (fun x => n - x.1)
    (fun x => [(13,.int .i64 x.1),(12,.int .i64 n),(11,.slice A n c),(6,.slice x.2.2.1 x.1 x.2.2.2.1),(3,ptrB b3)])
    (fun x => [Blk b3 26 (tieC t),OwnS 3 1 (.slice x.2.2.1 x.1 x.2.2.2.1) x.1 (x.2.1.flatMap encI)]) (fun x => x.2.2.2.2) (0,[],none,0,h) ⟨by dsimp only;omega,Le.refl _,rfl⟩ QS QT rfl ?_
  rintro ⟨k,cs,A1,c1,h1⟩ ⟨hk,hle,hw⟩ ih
  dsimp only at hk hle hw ih ⊢
  have hwl:=winsR_len hw
  rw [duels_len,List.length_take] at hwl
  by_cases hkn : k < n
  · have a1:=hrow.addrD hkn
    have c7 : CellsAt h1 ((addrD A).add (k * ty24.size)) (encDu (l.getD k du0)):=(hrow.cellsD du0 hkn).le hle
    have et:=take7 du0 (xs:=l) hlen hkn
    have hm:=mem7 du0 (show k < l.length by omega)
    generalize l.getD k du0 = p at *
    have hgp:=(hg p hm).le hle
    have hwi:=winner_c h1 p.1 p.2 t hgp
    obtain ⟨ps,pd⟩:=p
    dsimp only at hgp hwi
    have hsn : duels (l.take (k + 1)) = duels (l.take k) ++ [pd]:=by rw [et,duels_snoc]
    have hws:=winsR_snoc (t:=t) pd (duels (l.take k))
    rw [hw,← hsn] at hws
    have hmd : pd ∈ duels l:=List.mem_map.2 ⟨(ps,pd),hm,rfl⟩
    cases hwd : winD pd t with
    | none =>
      have hno : nextR (duels l) t = none:=nextR_no (winsR_stop hmd hwd)
      obtain ⟨q,hq⟩:=winV_none hwd
      rw [hq] at hwi
      clear ih hws hq
      repeat' (first|apply GO_seq|apply GO_skip|apply GO_block|apply GO_region|apply GOl_nil|(apply GOl_to;(iterate 3 exact rfl);apply OpTo_alloc (e:=24);exact rfl;intro bX)|(apply GOl_pv;(iterate 3 exact rfl))|(apply GOl_load;exact rfl;exact Ld_blk rfl QM rfl;exact rfl;exact rfl)|(apply GOl_ov;exact rfl;exact rfl;(first|(apply OV_idxS (j:=k);(iterate 5 exact rfl);exact a1;(with_reducible exact rfl);omega)|(apply OV_load;exact rfl;exact Lv_ro rfl c7 rfl));exact QA)|(apply GOl_to;(iterate 3 exact rfl);(first|(apply OpTo_store;(iterate 3 exact rfl);exact QR;(iterate 3 exact rfl);skip)|(apply OpTo_res;exact rfl;exact has26;exact hwi;rintro v2 h2 hle2 rfl;skip)))|(apply GO_cond;exact rfl;all_goals (intro hc;try simp only [hcS,reduceCtorEq] at hc;try (exfalso;omega))))
      all_goals first
        | (exfalso;simp at hc;done)
        | (refine GO_retR2 rfl rfl rfl rfl ⟨(sli0,[]),by rw [hno];rfl,⟨⟨SlOf.nil,fun p hp => absurd hp (by simp)⟩,Nat.le_refl _⟩,fun m e => by rw [hno] at e;cases e⟩)
    | some w =>
      rw [winV_some hwd] at hwi
      rw [hwd] at hws
      dsimp only at hws
      repeat' (first|apply GO_seq|apply GO_skip|apply GO_inBlock|apply GO_block|apply GO_region|apply GOl_nil|(apply GOl_to;(iterate 3 exact rfl);apply OpTo_alloc (e:=24);exact rfl;intro bX)|(apply GOl_add;(iterate 3 exact rfl);omega;exact rfl;exact rfl)|(apply GOl_pv;(iterate 3 exact rfl))|(apply GOl_load;exact rfl;exact Ld_blk rfl QM rfl;exact rfl;exact rfl)|(apply GOl_ov;exact rfl;exact rfl;(first|(apply OV_idxS (j:=k);(iterate 5 exact rfl);exact a1;(with_reducible exact rfl);omega)|(apply OV_load;exact rfl;exact Lv_ro rfl c7 rfl));exact QA)|(apply GOl_to;(iterate 3 exact rfl);(first|(apply OpTo_store;(iterate 3 exact rfl);exact QR;(iterate 3 exact rfl);skip)|(apply OpTo_res;exact rfl;exact has26;exact hwi;rintro v2 h2 hle2 rfl;skip)|(apply OpTo_buildSliceS (enc:=encI) (n:=1) [w];(iterate 3 exact rfl);exact List.cons_ne_nil _ _;(iterate 4 exact rfl);exact fun _ => rfl;exact rfl;exact rfl;intro b5 h5 hle5 hs5;skip)|(apply OpTo_appendS (enc:=encI) (xs:=cs);(iterate 7 exact rfl);exact hs5;exact fun _ => rfl;exact fun x => allOne_ok rfl;intro v1;exact QR;omega;exact rfl;intro A5 c5;skip)))|(apply GO_cond;exact rfl;all_goals (intro hc;try simp only [hcS,reduceCtorEq] at hc;try (exfalso;omega))))
      all_goals first
        | (exfalso;simp at hc;done)
        | (have h3:=ih (k + 1,cs ++ [w],A5,c5,h5) ⟨by dsimp only;omega,hle.trans (hle2.trans hle5),hws⟩ (by dsimp only;omega)
           refine GO_fit QS QT (h3))
  · rw [List.take_of_length_le (by omega)] at hw
    have ek : k = n:=by omega
    subst ek
    clear ih
    have hcl : cs.length = k:=by omega
    have hne:=nextR_eq hw
    refine GO_relC (enc:=encI) (e:=3) (sz:=1) (n:=k) (xs:=cs) (fun _ => rfl) hcl QK ?_
    intro A7 c7 h7 hle7 e7 hnc7 hs7
    cases e7
    have hpa:=fun h' (hl : Le h7 h') => pair_c h' A1 k c1 cs (hs7.le hl) hnc7 (by omega)
    by_cases hk2 : 2 ≤ cs.length
    · rw [if_pos hk2] at hne
      rw [hne]
      repeat' (first|apply GO_seq|apply GO_region|apply GOl_nil|(apply GO_exit;exact rfl)|(apply GOl_pv;(iterate 3 exact rfl))|(apply GOl_to;(iterate 3 exact rfl);(first|(apply OpTo_res;exact rfl;exact has39;exact hpa _ (by first|exact Le.refl _|assumption|(repeat (first|assumption|(apply Le.trans;assumption))));rintro v2 h2 hle2 ⟨r,rfl,hr,hrd⟩;skip)))|(apply GO_cond;exact rfl;all_goals (intro hc;try simp only [hcS,reduceCtorEq] at hc;try (exfalso;omega))))
      all_goals first
        | (exfalso;omega)
        | (refine GO_retR2 rfl rfl rfl rfl ⟨r,?_,hr,fun m e => by cases e;exact hrd⟩;rw [(leI_t _ _).mpr (by omega)];rfl)
    · rw [if_neg hk2] at hne
      rw [hne]
      repeat' (first|apply GO_seq|apply GO_region|apply GOl_nil|(apply GO_exit;exact rfl)|(apply GOl_pv;(iterate 3 exact rfl))|(apply GOl_to;(iterate 3 exact rfl);(first|(apply OpTo_res;exact rfl;exact has39;exact hpa _ (by first|exact Le.refl _|assumption|(repeat (first|assumption|(apply Le.trans;assumption))));rintro v2 h2 hle2 ⟨r,rfl,hr,hrd⟩;skip)))|(apply GO_cond;exact rfl;all_goals (intro hc;try simp only [hcS,reduceCtorEq] at hc;try (exfalso;omega))))
      all_goals first
        | (exfalso;omega)
        | (refine GO_retR2 rfl rfl rfl rfl ⟨r,?_,hr,fun m e => by cases e⟩;rw [(leI_f _ _).mpr (by omega)];rfl)
end Go.Hw

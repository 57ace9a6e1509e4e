import Derived.Test.YtajmniiiahhfaaaGreatDoorUE18b
/-
  law08: Arrival, walked.
-/
set_option linter.unusedVariables false
set_option linter.unusedSimpArgs false
set_option maxRecDepth 100000
set_option maxHeartbeats 8000000
namespace Go.Hw
open Go
attribute [local irreducible] GO GOl GDp Val Fn Res CellsAt ValE Blk OwnS MapA OwnPf Has Yl idF
open Go.Proofs (Tryz.prog)
theorem new_ok {l : List Fct} (h32 : In32 l) (hk : ∀ f ∈ l, FctOk f) (hn : l.length ≤ 65536) : newL l = (canonL l, 0) := by
  have := canonL_len h32
  unfold newL; rw [if_pos hk, lim1 _ (by omega)]
theorem merge_ok {a b : List Fct} (ha : In32 a) (hb : In32 b) (ka : ∀ f ∈ a, FctOk f) (kb : ∀ f ∈ b, FctOk f) (na : a.length + b.length ≤ 65536) : mergeL (canonL a) (canonL b) = (canonL (a ++ b), 0) := by
  obtain ⟨q1, q2⟩ := canonL_ok ha ka (by omega)
  obtain ⟨r1, r2⟩ := canonL_ok hb kb (by omega)
  have hab : In32 (a ++ b) := fun f hf => by
    rcases List.mem_append.1 hf with h | h
    · exact ha f h
    · exact hb f h
  have := canonL_len hab
  rw [List.length_append] at this
  unfold mergeL
  rw [if_neg (by rw [ledE_zero.2 q1]; omega), if_neg (by rw [ledE_zero.2 r1]; omega), union_canon ha hb ka kb (by omega) (by omega), lim1 _ (by omega)]
theorem add_ok {T : List Fct} {f : Fct} (hT : In32 T) (kT : ∀ f ∈ T, FctOk f) (hf : f.void.length = 32) (kf : FctOk f) (hn : T.length ≤ 65535) : (addL (canonL T) f).1 = canonL (T ++ [f]) ∧ (addL (canonL T) f).2.2 = 0 := by
  obtain ⟨q1, q2⟩ := canonL_ok hT kT (by omega)
  have h2 : In32 (T ++ [f]) := fun g hg => by
    rcases List.mem_append.1 hg with h | h
    · exact hT g h
    · rw [List.mem_singleton] at h; subst h; exact hf
  have k2 : ∀ g ∈ T ++ [f], FctOk g := fun g hg => by
    rcases List.mem_append.1 hg with h | h
    · exact kT g h
    · rw [List.mem_singleton] at h; subst h; exact kf
  have hl := canonL_len h2
  rw [List.length_append, List.length_singleton] at hl
  by_cases hin : f ∈ canonL T
  · have e : addL (canonL T) f = (canonL T, false, 0) := by unfold addL; rw [if_neg (by rw [ledE_zero.2 q1]; omega), if_neg (fun q => q kf), if_pos hin]
    rw [e]
    refine ⟨canonL_same hT h2 kT k2 fun x => ?_, rfl⟩
    rw [List.mem_append, List.mem_singleton]
    exact ⟨.inl, fun h => h.elim id fun h => h ▸ (q2 f).1 hin⟩
  · have e : addL (canonL T) f = (canonL (T ++ [f]), true, 0) := by unfold addL; rw [if_neg (by rw [ledE_zero.2 q1]; omega), if_neg (fun q => q kf), if_neg hin, union_snoc hT hf kT kf (by omega), lim1 _ (by omega)]; rfl
    rw [e]; exact ⟨rfl, rfl⟩
theorem again_ok {T : List Fct} {f : Fct} (hT : In32 (T ++ [f])) (kT : ∀ g ∈ T ++ [f], FctOk g) (hn : T.length ≤ 65535) : addL (canonL (T ++ [f])) f = (canonL (T ++ [f]), false, 0) := by
  obtain ⟨q1, q2⟩ := canonL_ok hT kT (by simp; omega)
  have hm : f ∈ T ++ [f] := by simp
  unfold addL
  rw [if_neg (by rw [ledE_zero.2 q1]; omega), if_neg (fun q => q (kT f hm)), if_pos ((q2 f).2 hm)]
/-- A ledger in memory whose facts are told. -/
def LedIs (h : Ro) (A : Option Addr) (k c : Nat) (l : List (Fsh × Fct)) (L : List Fct) : Prop := k ≤ c ∧ LedAt h A k l ∧ fcs l = L
theorem LedIs.le {h h' : Ro} {A : Option Addr} {k c : Nat} {l : List (Fsh × Fct)} {L : List Fct} (a : LedIs h A k c l L) (hl : Le h h') : LedIs h' A k c l L := ⟨a.1, a.2.1.le hl, a.2.2⟩
theorem same8_t (h : Ro) {A B : Option Addr} {n c m d : Nat} {l r : List (Fsh × Fct)} {L : List Fct} (hx : LedIs h A n c l L) (hy : LedIs h B m d r L) : Val Tryz.prog 34 #[ledV A n c, ledV B m d] h (.bool true) := by
  have := same8_c h A n c l hx.2.1.facts B m d r hy.2.1.facts
  rwa [decide_eq_true (hx.2.2.trans hy.2.2.symm)] at this
theorem newLed_ok (h : Ro) (hG : PowG h) (A : Option Addr) (n c : Nat) (l : List (Fsh × Fct)) (hx : FactsAt h A n l) (hk : ∀ f ∈ fcs l, FctOk f) (hn : n ≤ 65536) : Res Tryz.prog 32 #[.slice A n c] h (fun u h' => ∃ A k c l', u = .tuple #[ledV A k c, .int .i64 0] ∧ LedIs h' A k c l' (canonL (fcs l))) := by
  have h32 : In32 (fcs l) := In32_of hx.fat
  have hl := hx.len
  refine (newLed_c h hG A n c l hx).mono ?_
  rintro u h2 _ ⟨v, rfl, A9, k, c9, l9, rfl, hkc, hla, hf9⟩
  rw [new_ok h32 hk (by omega)] at hf9 ⊢
  exact ⟨A9, k, c9, l9, rfl, hkc, hla, hf9⟩
theorem addLed_ok (h : Ro) (hG : PowG h) {A : Option Addr} {n c : Nat} {l : List (Fsh × Fct)} {T : List Fct} (hx : LedIs h A n c l (canonL T)) (p : Fsh × Fct) (hf : FAt h p.1 p.2 ∧ FSm p.2) (hT : In32 T) (kT : ∀ f ∈ T, FctOk f) (kf : FctOk p.2) (hn : T.length ≤ 65535) :
    Res Tryz.prog 41 #[ledV A n c, factV p.1 p.2] h (fun u h' => ∃ A k c l' bl, u = .tuple #[ledV A k c, .bool bl, .int .i64 0] ∧ LedIs h' A k c l' (canonL (T ++ [p.2]))) := by
  refine (addLed_c h hG A n c l hx.2.1.facts hx.1 p.1 p.2 hf.1 hf.2).mono ?_
  rintro u h2 _ ⟨v, rfl, A9, k, c9, l9, rfl, hkc, hla, hf9⟩
  obtain ⟨e1, e2⟩ := add_ok (f := p.2) hT kT hf.1.void kf hn
  rw [hx.2.2, e1] at hf9
  rw [hx.2.2, e2]
  exact ⟨A9, k, c9, l9, _, rfl, hkc, hla, hf9⟩
theorem againLed_ok (h : Ro) (hG : PowG h) {A : Option Addr} {n c : Nat} {l : List (Fsh × Fct)} {T : List Fct} (p : Fsh × Fct) (hx : LedIs h A n c l (canonL (T ++ [p.2]))) (hf : FAt h p.1 p.2 ∧ FSm p.2) (hT : In32 (T ++ [p.2])) (kT : ∀ f ∈ T ++ [p.2], FctOk f) (hn : T.length ≤ 65535) :
    Res Tryz.prog 41 #[ledV A n c, factV p.1 p.2] h (fun u h' => ∃ A k c l', u = .tuple #[ledV A k c, .bool false, .int .i64 0] ∧ LedIs h' A k c l' (canonL (T ++ [p.2]))) := by
  refine (addLed_c h hG A n c l hx.2.1.facts hx.1 p.1 p.2 hf.1 hf.2).mono ?_
  rintro u h2 _ ⟨v, rfl, A9, k, c9, l9, rfl, hkc, hla, hf9⟩
  rw [hx.2.2, again_ok hT kT hn] at hf9 ⊢
  exact ⟨A9, k, c9, l9, rfl, hkc, hla, hf9⟩
theorem mergeLed_ok (h : Ro) (hG : PowG h) {A B : Option Addr} {n c m d : Nat} {l r : List (Fsh × Fct)} {a b L : List Fct} (hx : LedIs h A n c l (canonL a)) (hy : LedIs h B m d r (canonL b)) (ha : In32 a) (hb : In32 b) (ka : ∀ f ∈ a, FctOk f) (kb : ∀ f ∈ b, FctOk f) (na : a.length + b.length ≤ 65536) (hL : canonL (a ++ b) = L) :
    Res Tryz.prog 42 #[ledV A n c, ledV B m d] h (fun u h' => ∃ A k c l', u = .tuple #[ledV A k c, .int .i64 0] ∧ LedIs h' A k c l' L) := by
  refine (mergeLed_c h hG A n c l hx.2.1.facts hx.1 B m d r hy.2.1.facts hy.1).mono ?_
  rintro u h2 _ ⟨v, rfl, A9, k, c9, l9, rfl, hkc, hla, hf9⟩
  rw [hx.2.2, hy.2.2, merge_ok ha hb ka kb na, hL] at hf9 ⊢
  exact ⟨A9, k, c9, l9, rfl, hkc, hla, hf9⟩
theorem checkLed_ok (h : Ro) (hG : PowG h) {A : Option Addr} {n c : Nat} {l : List (Fsh × Fct)} {L : List Fct} (hx : LedIs h A n c l L) (hL : LedOk L) : Res Tryz.prog 35 #[ledV A n c] h (fun u _ => u = .int .i64 0) := by
  refine (checkL_c h hG A n c l hx.2.1.facts).mono ?_
  rintro u h2 _ rfl
  rw [hx.2.2, ledE_zero.2 hL]
structure ArrX where
  i : Nat
  T : List Fct
  R : List (Fsh × Fct)
  nr : Nat
  A : Option Addr
  k : Nat
  c : Nat
  lx : List (Fsh × Fct)
  B : Option Addr
  d : Nat
  h : Ro
structure ArrI (h1 : Ro) (n : Nat) (l : List (Fsh × Fct)) (x : ArrX) : Prop where
  le : Le h1 x.h
  cnt : x.T.length + x.nr = n
  at_ : x.i = x.T.length
  led : LedIs x.h x.A x.k x.c x.lx (canonL x.T)
  row : SlOf encF82 82 x.h x.B x.nr x.R
  cap : x.nr ≤ x.d
  sub : ∀ p ∈ x.R, p ∈ l
  tsub : ∀ f ∈ x.T, f ∈ fcs l
  all : ∀ f ∈ fcs l, f ∈ x.T ∨ f ∈ fcs x.R
theorem ArrI.next {h1 : Ro} {n : Nat} {l : List (Fsh × Fct)} {x : ArrX} (a : ArrI h1 n l x) {k : Nat} (hk : k < x.nr) {p : Fsh × Fct} (hp : p = x.R.getD k p0) {h' : Ro} (hl : Le x.h h') {A B : Option Addr} {kk c d : Nat} {lx : List (Fsh × Fct)} (hx : LedIs h' A kk c lx (canonL (x.T ++ [p.2]))) {nr : Nat} (hn : nr = 0 + k + (x.nr - (k + 1))) (hr : SlOf encF82 82 h' B nr ([] ++ x.R.take k ++ x.R.drop (k + 1))) (hc : nr ≤ d) :
    ArrI h1 n l ⟨x.i + 1, x.T ++ [p.2], [] ++ x.R.take k ++ x.R.drop (k + 1), nr, A, kk, c, lx, B, d, h'⟩ := by
  have hlen := a.row.len
  have h1 := a.cnt
  have h2 := a.at_
  have hm : p ∈ x.R := by rw [hp]; exact mem7 p0 (by omega)
  have ht := take7 p0 hlen hk
  rw [← hp] at ht
  refine ⟨a.le.trans hl, by simp; omega, by simp; omega, hx, hr, hc, fun q hq => ?_, fun f hf => ?_, fun f hf => ?_⟩
  · rw [List.nil_append, List.mem_append] at hq
    rcases hq with hq | hq
    · exact a.sub q (List.mem_of_mem_take hq)
    · exact a.sub q (List.mem_of_mem_drop hq)
  · rw [List.mem_append, List.mem_singleton] at hf
    rcases hf with hf | rfl
    · exact a.tsub f hf
    · exact List.mem_map.2 ⟨p, a.sub p hm, rfl⟩
  · dsimp only
    rcases a.all f hf with h | h
    · exact .inl (List.mem_append_left _ h)
    · obtain ⟨q, hq, rfl⟩ := List.mem_map.1 h
      rw [← List.take_append_drop (k + 1) x.R, ht, List.mem_append, List.mem_append, List.mem_singleton] at hq
      rcases hq with (hq | rfl) | hq
      · exact .inr (List.mem_map.2 ⟨q, by rw [List.nil_append, List.mem_append]; exact .inl hq, rfl⟩)
      · exact .inl (by simp)
      · exact .inr (List.mem_map.2 ⟨q, by rw [List.nil_append, List.mem_append]; exact .inr hq, rfl⟩)
theorem fcs_take_mem {l : List (Fsh × Fct)} {k j : Nat} (hjk : j ≤ k) (f : Fct) : f ∈ fcs (l.take k) ++ fcs (l.drop j) ↔ f ∈ fcs l := by
  rw [List.mem_append]
  constructor
  · rintro (h | h)
    · obtain ⟨p, hp, rfl⟩ := List.mem_map.1 h; exact List.mem_map.2 ⟨p, List.mem_of_mem_take hp, rfl⟩
    · obtain ⟨p, hp, rfl⟩ := List.mem_map.1 h; exact List.mem_map.2 ⟨p, List.mem_of_mem_drop hp, rfl⟩
  · intro h
    obtain ⟨p, hp, rfl⟩ := List.mem_map.1 h
    rw [← List.take_append_drop k l, List.mem_append] at hp
    rcases hp with hp | hp
    · exact .inl (List.mem_map.2 ⟨p, hp, rfl⟩)
    · refine .inr (List.mem_map.2 ⟨p, ?_, rfl⟩)
      have : l.drop k = (l.drop j).drop (k - j) := by rw [List.drop_drop]; congr 1; omega
      rw [this] at hp
      exact List.mem_of_mem_drop hp
theorem LedIn.part {h h' : Ro} {A B : Option Addr} {n m c : Nat} {l r : List (Fsh × Fct)} (a : LedIn h A n c l) (hl : Le h h') (hr : SlOf encF82 82 h' B m r) (hs : ∀ p ∈ r, p ∈ l) (hm : m ≤ 1000000) : FactsAt h' B m r :=
  ⟨hr, fun p hp => ⟨(a.fat p (hs p hp)).1.le hl, (a.fat p (hs p hp)).2⟩, hm⟩
theorem fcs_sub {l r : List (Fsh × Fct)} (hs : ∀ p ∈ r, p ∈ l) : ∀ f ∈ fcs r, f ∈ fcs l := fun f hf => by
  obtain ⟨p, hp, rfl⟩ := List.mem_map.1 hf
  exact List.mem_map.2 ⟨p, hs p hp, rfl⟩
open Classical in
theorem arrival_law (h : Ro) (hG : PowG h) (A : Option Addr) (n c : Nat) (l : List (Fsh × Fct)) (hx : LedIn h A n c l) (P : Option Addr) (m d : Nat) (ps : List UInt8) (hps : SlOf encB 1 h P m ps) (hm : m ≤ 9223372036854775807) (cut : Int) : Val Tryz.prog 8 #[.slice A n c, .slice P m d, .int .i64 cut] h (.bool true) := by
  refine Val_intro (args := [_, _, _]) ts_ok Go.Proofs.Tryz.func8 rfl rfl fun w0 X0 => ?_
  have hsane := sane8_c h hG
  have hrow := hx.row
  have hsm := hx.small
  have hlen := hx.row.len
  have hcap := hx.cap
  have h32 : In32 (fcs l) := In32_of hx.fat
  by_cases hv : ∀ f ∈ fcs l, FctOk f
  · have hnew := fun (hn : (n : Int) ≤ 14) h' (hl : Le h h') => newLed_ok h' (hG.le hl) A n c l ((hx.facts hn).le hl) hv (by omega)
    have hval := fun (hn : (n : Int) ≤ 14) h' (hl : Le h h') => by
      have := valid8_c h' A n c l ((hx.facts hn).le hl)
      rw [decide_eq_true hv] at this
      exact this
    have hokL : (n : Int) ≤ 14 → LedOk (canonL (fcs l)) := fun hn => (canonL_ok h32 hv (by rw [List.length_map]; omega)).1
    repeat' (first | apply GO_seq | apply GO_skip | apply GO_block | apply GO_region | apply GOl_nil | (apply GOl_unwanted; exact rfl; exact rfl) | (apply GOl_pv; exact rfl; exact rfl; exact rfl) | (apply GOl_load; exact rfl; exact Ld_blk rfl (by (repeat (first | exact List.Mem.head _ | apply List.Mem.tail)); done) rfl; exact rfl; exact rfl) | (apply GOl_to; exact rfl; exact rfl; exact rfl; (first | (apply OpTo_store; exact rfl; exact rfl; exact rfl; exact (by (repeat (first | exact Repl.here | apply Repl.there)); done); exact rfl; exact rfl; exact rfl; skip) | (apply OpTo_alloc; exact rfl; intro b; skip) | (apply OpTo_val; exact rfl; exact has30; exact hsane; skip) | (apply OpTo_res; exact rfl; exact has31; exact few8_c _ A n c l (hrow.le (by first | exact Le.refl _ | assumption | (repeat (first | assumption | (apply Le.trans; assumption))))) hsm 14; rintro w1 h1 hle1 ⟨b, rfl, hb⟩; cases b; all_goals skip) | (apply OpTo_val; exact rfl; exact has40; exact hval (hb rfl) _ (by first | exact Le.refl _ | assumption | (repeat (first | assumption | (apply Le.trans; assumption)))); skip) | (apply OpTo_res; exact rfl; exact has32; exact hnew (hb rfl) _ (by first | exact Le.refl _ | assumption | (repeat (first | assumption | (apply Le.trans; assumption)))); rintro w2 h2 hle2 ⟨A2, k2, c2, l2, rfl, hL2⟩; skip) | (apply OpTo_res; exact rfl; exact has35; exact checkLed_ok _ (hG.le (by first | exact Le.refl _ | assumption | (repeat (first | assumption | (apply Le.trans; assumption))))) (hL2.le (by first | exact Le.refl _ | assumption | (repeat (first | assumption | (apply Le.trans; assumption))))) (hokL (hb rfl)); rintro w3 h3 hle3 rfl; skip) | (apply OpTo_buildSliceO (n := 0); exact rfl; exact rfl; exact rfl; exact List.cons_ne_nil _ _; exact rfl; exact rfl; exact rfl; exact rfl; exact rfl; exact rfl; intro b1; skip) | (apply OpTo_appendSR (enc := encF82) (xs := []) (ys := l); exact rfl; exact rfl; exact rfl; exact rfl; exact rfl; exact rfl; exact rfl; exact hrow.le (by first | exact Le.refl _ | assumption | (repeat (first | assumption | (apply Le.trans; assumption)))); exact encF82_len; exact (fun x => allOne_ok (factC_one x.1 x.2)); exact (by (repeat (first | exact Take.here | apply Take.there)); done); exact rfl; (have hn14 := hb rfl; omega); exact rfl; intro A5 c5 h5 hle5 hnc5 hs5; skip))) | (apply GO_cond; exact rfl; all_goals intro hc; all_goals try simp only [ltI_t, ltI_f, leI_t, leI_f, eqI_t, eqI_f, Bool.not_eq_true', Bool.not_eq_false', decide_eq_true_eq, decide_eq_false_iff_not, reduceCtorEq] at hc; all_goals try (exfalso; omega)) | (apply GOl_split; exact rfl; exact rfl; all_goals intro hc; all_goals try simp only [ltI_t, ltI_f, leI_t, leI_f, eqI_t, eqI_f, Bool.not_eq_true', Bool.not_eq_false', decide_eq_true_eq, decide_eq_false_iff_not, reduceCtorEq] at hc; all_goals try (exfalso; omega)))
    all_goals (try (exact GO_retV1 rfl rfl rfl rfl; done))
    rename_i bw hq9
    generalize b = bx
    have hn14 := hb rfl
    clear hval hnew
    refine GO_loopT (X := ArrX) (fun x => ArrI h5 n l x) (fun x => x.nr)
      (fun x => [(11, .int .i64 x.i), (10, .slice x.B x.nr x.d), (9, .pointer (some ⟨bx, 0, none⟩)), (7, .pointer (some ⟨bw, 0, none⟩)), (2, .int .i64 cut), (1, .slice P m d), (0, .slice A n c)])
      (fun x => [Blk bx 47 [.slice x.A x.k x.c], Blk bw 47 [.slice A2 k2 c2]]) (fun x => x.h) ⟨0, [], [] ++ l, 0 + n, none, 0, 0, [], A5, c5, h5⟩
      ⟨Le.refl _, by simp, rfl, ⟨Nat.le_refl _, LedAt.nil _, rfl⟩, hs5, hnc5, fun p hp => hp, fun f hf => by simp at hf, fun f hf => .inr hf⟩ (by (repeat (first | exact trivial | refine ⟨rfl, ?_⟩)); done) (by (repeat (first | exact Takes_nil | (apply Takes_cons; exact (by (repeat (first | exact Take.here | apply Take.there)); done)))); done) rfl ?_
    rintro ⟨i, T, R, nr, A3, k3, c3, l3, B, d3, hh⟩ hI ih
    have hle := hI.le
    have hcnt := hI.cnt
    have hat := hI.at_
    have hled := hI.led
    have hro := hI.row
    have hcp := hI.cap
    have hsub := hI.sub
    have hts := hI.tsub
    have hal := hI.all
    dsimp only at hle hcnt hat hled hro hcp hsub hts hal ih ⊢
    have hrl := hro.len
    have h0h : Le h h5 := (by first | exact Le.refl _ | assumption | (repeat (first | assumption | (apply Le.trans; assumption))))
    by_cases hr0 : nr = 0
    · have hR : R = [] := List.eq_nil_of_length_eq_zero (by omega)
      clear ih
      have hTL : canonL T = canonL (fcs l) := canonL_same (fun f hf => h32 f (hts f hf)) h32 (fun f hf => hv f (hts f hf)) hv fun f => ⟨hts f, fun hf => (hal f hf).elim id fun q => by rw [hR] at q; simp at q⟩
      rw [hTL] at hled
      have h32t : ∀ k, In32 (fcs (l.take k)) := fun k f hf => h32 f (fcs_sub (fun p hp => List.mem_of_mem_take hp) f hf)
      have h32d : ∀ k, In32 (fcs (l.drop k)) := fun k f hf => h32 f (fcs_sub (fun p hp => List.mem_of_mem_drop hp) f hf)
      have hvt : ∀ k, ∀ f ∈ fcs (l.take k), FctOk f := fun k f hf => hv f (fcs_sub (fun p hp => List.mem_of_mem_take hp) f hf)
      have hvd : ∀ k, ∀ f ∈ fcs (l.drop k), FctOk f := fun k f hf => hv f (fcs_sub (fun p hp => List.mem_of_mem_drop hp) f hf)
      have hln : ∀ k j, (fcs (l.take k)).length + (fcs (l.drop j)).length ≤ 65536 := fun k j => by
        rw [List.length_map, List.length_map, List.length_take, List.length_drop]; omega
      have hcan : ∀ k j, j ≤ k → canonL (fcs (l.take k) ++ fcs (l.drop j)) = canonL (fcs l) ∧ canonL (fcs (l.drop j) ++ fcs (l.take k)) = canonL (fcs l) := fun k j hjk => by
        have m32 : ∀ a b, In32 a → In32 b → In32 (a ++ b) := fun a b ha hb f hf => (List.mem_append.1 hf).elim (ha f) (hb f)
        have mk : ∀ a b, (∀ f ∈ a, FctOk f) → (∀ f ∈ b, FctOk f) → ∀ f ∈ a ++ b, FctOk f := fun a b ha hb f hf => (List.mem_append.1 hf).elim (ha f) (hb f)
        exact ⟨canonL_same (m32 _ _ (h32t k) (h32d j)) h32 (mk _ _ (hvt k) (hvd j)) hv fun f => fcs_take_mem hjk f,
          canonL_same (m32 _ _ (h32d j) (h32t k)) h32 (mk _ _ (hvd j) (hvt k)) hv fun f => by rw [← fcs_take_mem hjk f, List.mem_append, List.mem_append, or_comm]⟩
      clear hI hro hcp hsub hts hal hrl
      by_cases hn0 : n = 0
      · repeat' (first | apply GO_seq | apply GO_skip | apply GO_region | apply GOl_nil | (apply GO_exit; exact rfl) | (apply GOl_ov; exact rfl; exact rfl; (first | (apply OV_quoI; exact rfl; exact rfl; exact rfl; omega; omega)); exact (by repeat' (first | exact trivial | apply And.intro | exact List.Mem.head _ | apply List.Mem.tail))) | (apply GOl_pv; exact rfl; exact rfl; exact rfl) | (apply GOl_load; exact rfl; exact Ld_blk rfl (by (repeat (first | exact List.Mem.head _ | apply List.Mem.tail)); done) rfl; exact rfl; exact rfl) | (apply GOl_ov; exact rfl; exact rfl; (first | (apply OV_sliceHi (hi := 0) (n := n) (c := c); exact rfl; exact rfl; exact rfl; exact rfl; exact rfl; omega; omega; exact hcap) | (apply OV_sliceLo (lo := 0) (n := n) (c := c); exact rfl; exact rfl; exact rfl; exact rfl; exact rfl; omega; omega)); exact (by repeat' (first | exact trivial | apply And.intro | exact List.Mem.head _ | apply List.Mem.tail))) | (apply GOl_to; exact rfl; exact rfl; exact rfl; (first | (apply OpTo_store; exact rfl; exact rfl; exact rfl; exact (by (repeat (first | exact Repl.here | apply Repl.there)); done); exact rfl; exact rfl; exact rfl; skip) | (apply OpTo_alloc; exact rfl; intro b; skip) | (apply OpTo_res; exact rfl; exact has32; exact newLed_ok _ (hG.le (by first | exact Le.refl _ | assumption | (repeat (first | assumption | (apply Le.trans; assumption))))) _ 0 c (l.take 0) (hx.part (by first | exact Le.refl _ | assumption | (repeat (first | assumption | (apply Le.trans; assumption)))) ((hrow.high (hi := 0) (c := c) (by omega) hcap).le (by first | exact Le.refl _ | assumption | (repeat (first | assumption | (apply Le.trans; assumption))))) (fun p hp => List.mem_of_mem_take hp) (by omega)) (hvt 0) (by omega); rintro wa ha hlea ⟨Aa, ka, ca, la, rfl, hLa⟩; skip) | (apply OpTo_res; exact rfl; exact has32; exact newLed_ok _ (hG.le (by first | exact Le.refl _ | assumption | (repeat (first | assumption | (apply Le.trans; assumption))))) _ (n - 0) (c - 0) (l.drop 0) (hx.part (by first | exact Le.refl _ | assumption | (repeat (first | assumption | (apply Le.trans; assumption)))) ((hrow.low (lo := 0) (c := c) (by omega) hcap).le (by first | exact Le.refl _ | assumption | (repeat (first | assumption | (apply Le.trans; assumption))))) (fun p hp => List.mem_of_mem_drop hp) (by omega)) (hvd 0) (by omega); rintro wb hb2 hleb ⟨Ab, kb, cb, lb, rfl, hLb⟩; skip) | (apply OpTo_res; exact rfl; exact has42; exact mergeLed_ok _ (hG.le (by first | exact Le.refl _ | assumption | (repeat (first | assumption | (apply Le.trans; assumption))))) (hLa.le (by first | exact Le.refl _ | assumption | (repeat (first | assumption | (apply Le.trans; assumption))))) (hLb.le (by first | exact Le.refl _ | assumption | (repeat (first | assumption | (apply Le.trans; assumption))))) (h32t 0) (h32d 0) (hvt 0) (hvd 0) (hln 0 0) (hcan 0 0 (by omega)).1; rintro wc hc2 hlec ⟨Ac, kc, cc, lc, rfl, hLc⟩; skip) | (apply OpTo_res; exact rfl; exact has42; exact mergeLed_ok _ (hG.le (by first | exact Le.refl _ | assumption | (repeat (first | assumption | (apply Le.trans; assumption))))) (hLb.le (by first | exact Le.refl _ | assumption | (repeat (first | assumption | (apply Le.trans; assumption))))) (hLa.le (by first | exact Le.refl _ | assumption | (repeat (first | assumption | (apply Le.trans; assumption))))) (h32d 0) (h32t 0) (hvd 0) (hvt 0) (by have := hln 0 0; omega) (hcan 0 0 (by omega)).2; rintro wd hd2 hled2 ⟨Ad, kd, cd, ld, rfl, hLd⟩; skip) | (apply OpTo_val; exact rfl; exact has34; exact same8_t _ (hled.le (by first | exact Le.refl _ | assumption | (repeat (first | assumption | (apply Le.trans; assumption))))) (hL2.le (by first | exact Le.refl _ | assumption | (repeat (first | assumption | (apply Le.trans; assumption))))); skip) | (apply OpTo_val; exact rfl; exact has34; exact same8_t _ (hLc.le (by first | exact Le.refl _ | assumption | (repeat (first | assumption | (apply Le.trans; assumption))))) (hL2.le (by first | exact Le.refl _ | assumption | (repeat (first | assumption | (apply Le.trans; assumption))))); skip) | (apply OpTo_val; exact rfl; exact has34; exact same8_t _ (hLd.le (by first | exact Le.refl _ | assumption | (repeat (first | assumption | (apply Le.trans; assumption))))) (hL2.le (by first | exact Le.refl _ | assumption | (repeat (first | assumption | (apply Le.trans; assumption))))); skip))) | (apply GO_cond; exact rfl; all_goals intro hc; all_goals try simp only [ltI_t, ltI_f, leI_t, leI_f, eqI_t, eqI_f, Bool.not_eq_true', Bool.not_eq_false', decide_eq_true_eq, decide_eq_false_iff_not, reduceCtorEq] at hc; all_goals try (exfalso; omega)) | (apply GOl_split; exact rfl; exact rfl; all_goals intro hc; all_goals try simp only [ltI_t, ltI_f, leI_t, leI_f, eqI_t, eqI_f, Bool.not_eq_true', Bool.not_eq_false', decide_eq_true_eq, decide_eq_false_iff_not, reduceCtorEq] at hc; all_goals try (exfalso; omega)) | (apply GO_retV1; exact rfl; exact rfl; exact rfl))
        all_goals first
          | rfl
          | (exfalso; omega)
          | (exfalso; simp [eqI_eq] at hc; done)
         
      · repeat' (first | apply GO_seq | apply GO_region | apply GOl_nil | (apply GO_exit; exact rfl) | (apply GOl_mask; exact rfl; exact rfl; exact rfl; decide; exact rfl; exact rfl; intro wm hw0 hw3) | (apply GOl_remB; exact rfl; exact rfl; exact rfl; (constructor <;> omega); exact rfl; exact rfl; intro wk hk0 hk1) | (apply GOl_ov; exact rfl; exact rfl; (first | (apply OV_quoI; exact rfl; exact rfl; exact rfl; omega; omega)); exact (by repeat' (first | exact trivial | apply And.intro | exact List.Mem.head _ | apply List.Mem.tail))) | (apply GOl_pv; exact rfl; exact rfl; exact rfl) | (apply GOl_load; exact rfl; exact Ld_blk rfl (by (repeat (first | exact List.Mem.head _ | apply List.Mem.tail)); done) rfl; exact rfl; exact rfl) | (apply GOl_ov; exact rfl; exact rfl; (first | (apply OV_sliceHi (hi := wk.toNat) (n := n) (c := c); exact rfl; exact rfl; exact rfl; exact rfl; exact rfl; omega; omega; exact hcap) | (apply OV_sliceLo (lo := (wk / 2).toNat) (n := n) (c := c); exact rfl; exact rfl; exact rfl; exact rfl; exact rfl; omega; omega)); exact (by repeat' (first | exact trivial | apply And.intro | exact List.Mem.head _ | apply List.Mem.tail))) | (apply GOl_to; exact rfl; exact rfl; exact rfl; (first | (apply OpTo_store; exact rfl; exact rfl; exact rfl; exact (by (repeat (first | exact Repl.here | apply Repl.there)); done); exact rfl; exact rfl; exact rfl; skip) | (apply OpTo_alloc; exact rfl; intro b; skip) | (apply OpTo_res; exact rfl; exact has32; exact newLed_ok _ (hG.le (by first | exact Le.refl _ | assumption | (repeat (first | assumption | (apply Le.trans; assumption))))) _ wk.toNat c (l.take wk.toNat) (hx.part (by first | exact Le.refl _ | assumption | (repeat (first | assumption | (apply Le.trans; assumption)))) ((hrow.high (hi := wk.toNat) (c := c) (by omega) hcap).le (by first | exact Le.refl _ | assumption | (repeat (first | assumption | (apply Le.trans; assumption))))) (fun p hp => List.mem_of_mem_take hp) (by omega)) (hvt wk.toNat) (by omega); rintro wa ha hlea ⟨Aa, ka, ca, la, rfl, hLa⟩; skip) | (apply OpTo_res; exact rfl; exact has32; exact newLed_ok _ (hG.le (by first | exact Le.refl _ | assumption | (repeat (first | assumption | (apply Le.trans; assumption))))) _ (n - (wk / 2).toNat) (c - (wk / 2).toNat) (l.drop (wk / 2).toNat) (hx.part (by first | exact Le.refl _ | assumption | (repeat (first | assumption | (apply Le.trans; assumption)))) ((hrow.low (lo := (wk / 2).toNat) (c := c) (by omega) hcap).le (by first | exact Le.refl _ | assumption | (repeat (first | assumption | (apply Le.trans; assumption))))) (fun p hp => List.mem_of_mem_drop hp) (by omega)) (hvd (wk / 2).toNat) (by omega); rintro wb hb2 hleb ⟨Ab, kb, cb, lb, rfl, hLb⟩; skip) | (apply OpTo_res; exact rfl; exact has42; exact mergeLed_ok _ (hG.le (by first | exact Le.refl _ | assumption | (repeat (first | assumption | (apply Le.trans; assumption))))) (hLa.le (by first | exact Le.refl _ | assumption | (repeat (first | assumption | (apply Le.trans; assumption))))) (hLb.le (by first | exact Le.refl _ | assumption | (repeat (first | assumption | (apply Le.trans; assumption))))) (h32t wk.toNat) (h32d (wk / 2).toNat) (hvt wk.toNat) (hvd (wk / 2).toNat) (hln wk.toNat (wk / 2).toNat) (hcan wk.toNat (wk / 2).toNat (by omega)).1; rintro wc hc2 hlec ⟨Ac, kc, cc, lc, rfl, hLc⟩; skip) | (apply OpTo_res; exact rfl; exact has42; exact mergeLed_ok _ (hG.le (by first | exact Le.refl _ | assumption | (repeat (first | assumption | (apply Le.trans; assumption))))) (hLb.le (by first | exact Le.refl _ | assumption | (repeat (first | assumption | (apply Le.trans; assumption))))) (hLa.le (by first | exact Le.refl _ | assumption | (repeat (first | assumption | (apply Le.trans; assumption))))) (h32d (wk / 2).toNat) (h32t wk.toNat) (hvd (wk / 2).toNat) (hvt wk.toNat) (by have := hln wk.toNat (wk / 2).toNat; omega) (hcan wk.toNat (wk / 2).toNat (by omega)).2; rintro wd hd2 hled2 ⟨Ad, kd, cd, ld, rfl, hLd⟩; skip) | (apply OpTo_val; exact rfl; exact has34; exact same8_t _ (hled.le (by first | exact Le.refl _ | assumption | (repeat (first | assumption | (apply Le.trans; assumption))))) (hL2.le (by first | exact Le.refl _ | assumption | (repeat (first | assumption | (apply Le.trans; assumption))))); skip) | (apply OpTo_val; exact rfl; exact has34; exact same8_t _ (hLc.le (by first | exact Le.refl _ | assumption | (repeat (first | assumption | (apply Le.trans; assumption))))) (hL2.le (by first | exact Le.refl _ | assumption | (repeat (first | assumption | (apply Le.trans; assumption))))); skip) | (apply OpTo_val; exact rfl; exact has34; exact same8_t _ (hLd.le (by first | exact Le.refl _ | assumption | (repeat (first | assumption | (apply Le.trans; assumption))))) (hL2.le (by first | exact Le.refl _ | assumption | (repeat (first | assumption | (apply Le.trans; assumption))))); skip))) | (apply GO_cond; exact rfl; all_goals intro hc; all_goals try simp only [ltI_t, ltI_f, leI_t, leI_f, eqI_t, eqI_f, Bool.not_eq_true', Bool.not_eq_false', decide_eq_true_eq, decide_eq_false_iff_not, reduceCtorEq] at hc; all_goals try (exfalso; omega)) | (apply GOl_split; exact rfl; exact rfl; all_goals intro hc; all_goals try simp only [ltI_t, ltI_f, leI_t, leI_f, eqI_t, eqI_f, Bool.not_eq_true', Bool.not_eq_false', decide_eq_true_eq, decide_eq_false_iff_not, reduceCtorEq] at hc; all_goals try (exfalso; omega)) | (apply GO_retV1; exact rfl; exact rfl; exact rfl))
        all_goals first
          | rfl
          | (exfalso; omega)
          | (exfalso; simp [eqI_eq] at hc; done)
         
    · have hT32 : In32 T := fun f hf => h32 f (hts f hf)
      have hTk : ∀ f ∈ T, FctOk f := fun f hf => hv f (hts f hf)
      have hpick : ∀ kk : Nat, kk < nr → ∃ p, p = R.getD kk p0 ∧ CellsAt hh ((addrD B).add (kk * ty73.size)) (encF82 p) ∧ (FAt hh p.1 p.2 ∧ FSm p.2) ∧ FctOk p.2 := fun kk hkk => by
        have hm7 := hsub _ (mem7 p0 (show kk < R.length by omega))
        have hft := hx.fat _ hm7
        exact ⟨_, rfl, hro.cellsD p0 hkk, ⟨hft.1.le (h0h.trans hle), hft.2⟩, hv _ (List.mem_map.2 ⟨_, hm7, rfl⟩)⟩
      have hT32' : ∀ p : Fsh × Fct, p.2.void.length = 32 → In32 (T ++ [p.2]) := fun p hp f hf => by
        rcases List.mem_append.1 hf with h | h
        · exact hT32 f h
        · rw [List.mem_singleton] at h; subst h; exact hp
      have hTk' : ∀ p : Fsh × Fct, FctOk p.2 → ∀ f ∈ T ++ [p.2], FctOk f := fun p hp f hf => by
        rcases List.mem_append.1 hf with h | h
        · exact hTk f h
        · rw [List.mem_singleton] at h; subst h; exact hp
      have hadr := fun kk (hk : kk < nr) => hro.addrD hk
      have hG' := hG.le (h0h.trans hle)
      by_cases him : i < m
      · have hpc := (hps.cellsD 0 him).le (h0h.trans hle)
        have hpa := hps.addrD him
        have hb8 := (ps.getD i 0).toNat_lt
        generalize ps.getD i 0 = q8 at *
        repeat' (first | apply GO_seq | apply GO_skip | apply GO_inBlock | apply GO_block | apply GO_region | apply GOl_nil | (apply GOl_conv; exact rfl; exact rfl; exact rfl; omega; exact rfl; exact rfl) | (apply GOl_remB; exact rfl; exact rfl; exact rfl; (constructor <;> omega); exact rfl; exact rfl; intro wk hk0 hk1; obtain ⟨p, hpe, hcc, hfp, hkp⟩ := hpick wk.toNat (by omega)) | (apply GOl_add; exact rfl; exact rfl; exact rfl; omega; exact rfl; exact rfl) | (apply GOl_pv; exact rfl; exact rfl; exact rfl) | (apply GOl_load; exact rfl; exact Ld_blk rfl (by (repeat (first | exact List.Mem.head _ | apply List.Mem.tail)); done) rfl; exact rfl; exact rfl) | (apply GOl_ov; exact rfl; exact rfl; (first | (apply OV_idxS (A := P) (j := i); exact rfl; exact rfl; exact rfl; exact rfl; exact rfl; exact hpa; (with_reducible exact rfl); omega) | (apply OV_load; exact rfl; exact Lv_ro rfl (hpc.le (by first | exact Le.refl _ | assumption | (repeat (first | assumption | (apply Le.trans; assumption))))) rfl)); exact (by repeat' (first | exact trivial | apply And.intro | exact List.Mem.head _ | apply List.Mem.tail))) | (apply GOl_to; exact rfl; exact rfl; exact rfl; (first | (apply OpTo_store; exact rfl; exact rfl; exact rfl; exact (by (repeat (first | exact Repl.here | apply Repl.there)); done); exact rfl; exact rfl; exact rfl; skip) | (apply OpTo_val; exact rfl; exact has34; exact same8_t _ (hL6.le (by first | exact Le.refl _ | assumption | (repeat (first | assumption | (apply Le.trans; assumption))))) (hL7.le (by first | exact Le.refl _ | assumption | (repeat (first | assumption | (apply Le.trans; assumption))))); skip))) | (apply GO_drawp (n := 16) [0, 1, 2, 3, 4, 5, 6, 7, 10, 11, 8, 12, 9, 13] [(0, 0), (1, 0), (2, 0), (3, 0), (4, 0), (5, 2), (8, 10), (6, 0), (7, 0), (8, 0), (9, 0), (10, 1), (11, 1), (12, 0), (13, 0), (5, 1), (6, 0), (7, 0), (8, 0), (9, 0), (11, 1), (12, 0), (13, 0)]; kernel_rfl) | (apply GO_drawp (n := 17) [0, 1, 2, 3, 4, 5, 6, 7, 10, 11, 8, 12, 9, 13] [(0, 0), (1, 0), (2, 0), (3, 0), (4, 0), (5, 2), (8, 10), (6, 0), (7, 0), (8, 0), (9, 0), (10, 1), (11, 1), (12, 0), (13, 0), (5, 1), (6, 0), (7, 0), (8, 0), (9, 0), (11, 1), (12, 0), (13, 0)]; kernel_rfl) | (apply GO_drawp (n := 21) [0, 1, 2, 3, 4, 5, 6, 7, 8, 9, 10] [(1, 0), (2, 0), (3, 0), (5, 0), (6, 0), (7, 0), (8, 0), (0, 1), (4, 1), (9, 1), (10, 0)]; kernel_rfl) | (apply GP_add; exact rfl; kernel_rfl; exact rfl; exact rfl; exact rfl; exact rfl; exact rfl; omega) | (apply GP_pv; exact rfl; kernel_rfl; exact rfl; exact rfl; exact rfl) | (apply GP_loadB; exact rfl; kernel_rfl; exact rfl; exact rfl; exact rfl; exact (by (repeat (first | exact List.Mem.head _ | apply List.Mem.tail)); done); exact rfl; exact rfl) | (apply GP_ov; exact rfl; kernel_rfl; exact rfl; exact rfl; (first | (apply OV_idxS (A := B) (j := wk.toNat); exact rfl; exact rfl; exact rfl; exact rfl; exact rfl; exact hadr wk.toNat (by omega); omega; omega) | (apply OV_load; exact rfl; exact Lv_ro rfl (hcc.le (by first | exact Le.refl _ | assumption | (repeat (first | assumption | (apply Le.trans; assumption))))) rfl) | (apply OV_sliceHi (hi := wk.toNat) (n := nr) (c := d3); exact rfl; exact rfl; exact rfl; exact rfl; exact rfl; omega; omega; exact hcp) | (apply OV_sliceLo (lo := wk.toNat + 1) (n := nr) (c := d3); exact rfl; exact rfl; exact rfl; exact rfl; exact rfl; omega; omega)); exact (by repeat' (first | exact trivial | apply And.intro | exact List.Mem.head _ | apply List.Mem.tail))) | (apply GP_real; exact rfl; kernel_rfl; exact rfl; exact rfl; exact rfl; (first | (apply OpTo_store; exact rfl; exact rfl; exact rfl; exact (by (repeat (first | exact Repl.here | apply Repl.there)); done); exact rfl; exact rfl; exact rfl; refine ⟨Le.refl _, by (first | exact NdOk_no rfl | (apply NdOk_all; (repeat' (first | exact trivial | apply And.intro | exact List.Mem.head _ | apply List.Mem.tail)); done) | (apply NdOk_need; (repeat' (first | exact trivial | apply And.intro | exact List.Mem.head _ | apply List.Mem.tail)); done)), ?_⟩) | (apply OpTo_alloc; exact rfl; intro b; refine ⟨Le.refl _, by (first | exact NdOk_no rfl | (apply NdOk_all; (repeat' (first | exact trivial | apply And.intro | exact List.Mem.head _ | apply List.Mem.tail)); done) | (apply NdOk_need; (repeat' (first | exact trivial | apply And.intro | exact List.Mem.head _ | apply List.Mem.tail)); done)), ?_⟩) | (apply OpTo_res; exact rfl; exact has41; exact addLed_ok _ (hG'.le (by first | exact Le.refl _ | assumption | (repeat (first | assumption | (apply Le.trans; assumption))))) (hled.le (by first | exact Le.refl _ | assumption | (repeat (first | assumption | (apply Le.trans; assumption))))) p ⟨hfp.1.le (by first | exact Le.refl _ | assumption | (repeat (first | assumption | (apply Le.trans; assumption)))), hfp.2⟩ hT32 hTk hkp (by omega); rintro w6 h6 hle6 ⟨A6, k6, c6, l6, bl6, rfl, hL6⟩; refine ⟨hle6, by (first | exact NdOk_no rfl | (apply NdOk_all; (repeat' (first | exact trivial | apply And.intro | exact List.Mem.head _ | apply List.Mem.tail)); done) | (apply NdOk_need; (repeat' (first | exact trivial | apply And.intro | exact List.Mem.head _ | apply List.Mem.tail)); done)), ?_⟩) | (apply OpTo_res; exact rfl; exact has41; exact againLed_ok _ (hG'.le (by first | exact Le.refl _ | assumption | (repeat (first | assumption | (apply Le.trans; assumption))))) p (hL6.le (by first | exact Le.refl _ | assumption | (repeat (first | assumption | (apply Le.trans; assumption))))) ⟨hfp.1.le (by first | exact Le.refl _ | assumption | (repeat (first | assumption | (apply Le.trans; assumption)))), hfp.2⟩ (hT32' p hfp.1.void) (hTk' p hkp) (by omega); rintro w7 h7 hle7 ⟨A7, k7, c7, l7, rfl, hL7⟩; refine ⟨hle7, by (first | exact NdOk_no rfl | (apply NdOk_all; (repeat' (first | exact trivial | apply And.intro | exact List.Mem.head _ | apply List.Mem.tail)); done) | (apply NdOk_need; (repeat' (first | exact trivial | apply And.intro | exact List.Mem.head _ | apply List.Mem.tail)); done)), ?_⟩) | (apply OpTo_buildSliceO (n := 0); exact rfl; exact rfl; exact rfl; exact List.cons_ne_nil _ _; exact rfl; exact rfl; exact rfl; exact rfl; exact rfl; exact rfl; intro b8; refine ⟨Le.refl _, by (first | exact NdOk_no rfl | (apply NdOk_all; (repeat' (first | exact trivial | apply And.intro | exact List.Mem.head _ | apply List.Mem.tail)); done) | (apply NdOk_need; (repeat' (first | exact trivial | apply And.intro | exact List.Mem.head _ | apply List.Mem.tail)); done)), ?_⟩) | (apply OpTo_appendS (enc := encF82) (xs := []) (ys := R.take wk.toNat); exact rfl; exact rfl; exact rfl; exact rfl; exact rfl; exact rfl; exact rfl; exact ((hro.high (hi := wk.toNat) (c := d3) (by omega) hcp).le (by first | exact Le.refl _ | assumption | (repeat (first | assumption | (apply Le.trans; assumption))))); exact encF82_len; exact (fun x => allOne_ok (factC_one x.1 x.2)); intro v1; exact (by (repeat (first | exact Repl.here | apply Repl.there)); done); omega; exact rfl; intro A8 c8; refine ⟨Le.refl _, by (first | exact NdOk_no rfl | (apply NdOk_all; (repeat' (first | exact trivial | apply And.intro | exact List.Mem.head _ | apply List.Mem.tail)); done) | (apply NdOk_need; (repeat' (first | exact trivial | apply And.intro | exact List.Mem.head _ | apply List.Mem.tail)); done)), ?_⟩) | (apply OpTo_appendSR (enc := encF82) (n := 0 + wk.toNat) (xs := [] ++ R.take wk.toNat) (ys := R.drop (wk.toNat + 1)); exact rfl; exact rfl; exact rfl; exact rfl; exact rfl; exact rfl; exact rfl; exact ((hro.low (lo := wk.toNat + 1) (c := d3) (by omega) hcp).le (by first | exact Le.refl _ | assumption | (repeat (first | assumption | (apply Le.trans; assumption))))); exact encF82_len; exact (fun x => allOne_ok (factC_one x.1 x.2)); exact (by (repeat (first | exact Take.here | apply Take.there)); done); (rw [List.nil_append, List.length_take]; omega); omega; exact rfl; intro A9 c9 h9 hle9 hnc9 hs9; refine ⟨hle9, by (first | exact NdOk_no rfl | (apply NdOk_all; (repeat' (first | exact trivial | apply And.intro | exact List.Mem.head _ | apply List.Mem.tail)); done) | (apply NdOk_need; (repeat' (first | exact trivial | apply And.intro | exact List.Mem.head _ | apply List.Mem.tail)); done)), ?_⟩))) | (apply GP_two; kernel_rfl; exact rfl; exact rfl) | (apply RealP_intro; exact rfl; exact rfl; exact rfl; exact rfl; (first | (apply OpTo_alloc; exact rfl; intro b; refine ⟨Le.refl _, by (first | exact NdOk_no rfl | (apply NdOk_all; (repeat' (first | exact trivial | apply And.intro | exact List.Mem.head _ | apply List.Mem.tail)); done) | (apply NdOk_need; (repeat' (first | exact trivial | apply And.intro | exact List.Mem.head _ | apply List.Mem.tail)); done)), ?_⟩) | (apply OpTo_res; exact rfl; exact has41; exact addLed_ok _ (hG'.le (by first | exact Le.refl _ | assumption | (repeat (first | assumption | (apply Le.trans; assumption))))) (hled.le (by first | exact Le.refl _ | assumption | (repeat (first | assumption | (apply Le.trans; assumption))))) p ⟨hfp.1.le (by first | exact Le.refl _ | assumption | (repeat (first | assumption | (apply Le.trans; assumption)))), hfp.2⟩ hT32 hTk hkp (by omega); rintro w6 h6 hle6 ⟨A6, k6, c6, l6, bl6, rfl, hL6⟩; refine ⟨hle6, by (first | exact NdOk_no rfl | (apply NdOk_all; (repeat' (first | exact trivial | apply And.intro | exact List.Mem.head _ | apply List.Mem.tail)); done) | (apply NdOk_need; (repeat' (first | exact trivial | apply And.intro | exact List.Mem.head _ | apply List.Mem.tail)); done)), ?_⟩) | (apply OpTo_res; exact rfl; exact has41; exact againLed_ok _ (hG'.le (by first | exact Le.refl _ | assumption | (repeat (first | assumption | (apply Le.trans; assumption))))) p (hL6.le (by first | exact Le.refl _ | assumption | (repeat (first | assumption | (apply Le.trans; assumption))))) ⟨hfp.1.le (by first | exact Le.refl _ | assumption | (repeat (first | assumption | (apply Le.trans; assumption)))), hfp.2⟩ (hT32' p hfp.1.void) (hTk' p hkp) (by omega); rintro w7 h7 hle7 ⟨A7, k7, c7, l7, rfl, hL7⟩; refine ⟨hle7, by (first | exact NdOk_no rfl | (apply NdOk_all; (repeat' (first | exact trivial | apply And.intro | exact List.Mem.head _ | apply List.Mem.tail)); done) | (apply NdOk_need; (repeat' (first | exact trivial | apply And.intro | exact List.Mem.head _ | apply List.Mem.tail)); done)), ?_⟩))) | (apply GP_done; kernel_rfl; exact rfl) | (apply GO_cond; exact rfl; all_goals intro hc; all_goals try simp only [ltI_t, ltI_f, leI_t, leI_f, eqI_t, eqI_f, Bool.not_eq_true', Bool.not_eq_false', decide_eq_true_eq, decide_eq_false_iff_not, reduceCtorEq] at hc; all_goals try (exfalso; omega)) | (apply GOl_split; exact rfl; exact rfl; all_goals intro hc; all_goals try simp only [ltI_t, ltI_f, leI_t, leI_f, eqI_t, eqI_f, Bool.not_eq_true', Bool.not_eq_false', decide_eq_true_eq, decide_eq_false_iff_not, reduceCtorEq] at hc; all_goals try (exfalso; omega)))
        all_goals (try (exfalso; omega))
        all_goals (try (exfalso; simp [eqI_eq] at hc; done))
        all_goals
          have h3 := ih ⟨i + 1, T ++ [p.2], [] ++ R.take (wk.toNat) ++ R.drop (wk.toNat + 1), 0 + wk.toNat + (nr - (wk.toNat + 1)), A7, k7, c7, l7, A9, c9, h9⟩ (hI.next (k := wk.toNat) (by dsimp only; omega) hpe (by first | exact Le.refl _ | assumption | (repeat (first | assumption | (apply Le.trans; assumption)))) (hL7.le (by first | exact Le.refl _ | assumption | (repeat (first | assumption | (apply Le.trans; assumption))))) rfl hs9 (by omega)) (by dsimp only; omega)
          dsimp only at h3
          refine GO_fit (by (repeat (first | exact trivial | refine ⟨rfl, ?_⟩)); done) (by (repeat (first | exact Takes_nil | (apply Takes_cons; exact (by (repeat (first | exact Take.here | apply Take.there)); done)))); done) (h3)
      · obtain ⟨p, hpe, hcc, hfp, hkp⟩ := hpick 0 (by omega)
        repeat' (first | apply GO_seq | apply GO_skip | apply GO_inBlock | apply GO_block | apply GO_region | apply GOl_nil | (apply GOl_add; exact rfl; exact rfl; exact rfl; omega; exact rfl; exact rfl) | (apply GOl_pv; exact rfl; exact rfl; exact rfl) | (apply GOl_load; exact rfl; exact Ld_blk rfl (by (repeat (first | exact List.Mem.head _ | apply List.Mem.tail)); done) rfl; exact rfl; exact rfl) | (apply GOl_to; exact rfl; exact rfl; exact rfl; (first | (apply OpTo_store; exact rfl; exact rfl; exact rfl; exact (by (repeat (first | exact Repl.here | apply Repl.there)); done); exact rfl; exact rfl; exact rfl; skip) | (apply OpTo_val; exact rfl; exact has34; exact same8_t _ (hL6.le (by first | exact Le.refl _ | assumption | (repeat (first | assumption | (apply Le.trans; assumption))))) (hL7.le (by first | exact Le.refl _ | assumption | (repeat (first | assumption | (apply Le.trans; assumption))))); skip))) | (apply GO_drawp (n := 16) [0, 1, 2, 3, 4, 5, 6, 7, 10, 11, 8, 12, 9, 13] [(0, 0), (1, 0), (2, 0), (3, 0), (4, 0), (5, 2), (8, 10), (6, 0), (7, 0), (8, 0), (9, 0), (10, 1), (11, 1), (12, 0), (13, 0), (5, 1), (6, 0), (7, 0), (8, 0), (9, 0), (11, 1), (12, 0), (13, 0)]; kernel_rfl) | (apply GO_drawp (n := 17) [0, 1, 2, 3, 4, 5, 6, 7, 10, 11, 8, 12, 9, 13] [(0, 0), (1, 0), (2, 0), (3, 0), (4, 0), (5, 2), (8, 10), (6, 0), (7, 0), (8, 0), (9, 0), (10, 1), (11, 1), (12, 0), (13, 0), (5, 1), (6, 0), (7, 0), (8, 0), (9, 0), (11, 1), (12, 0), (13, 0)]; kernel_rfl) | (apply GO_drawp (n := 21) [0, 1, 2, 3, 4, 5, 6, 7, 8, 9, 10] [(1, 0), (2, 0), (3, 0), (5, 0), (6, 0), (7, 0), (8, 0), (0, 1), (4, 1), (9, 1), (10, 0)]; kernel_rfl) | (apply GP_add; exact rfl; kernel_rfl; exact rfl; exact rfl; exact rfl; exact rfl; exact rfl; omega) | (apply GP_pv; exact rfl; kernel_rfl; exact rfl; exact rfl; exact rfl) | (apply GP_loadB; exact rfl; kernel_rfl; exact rfl; exact rfl; exact rfl; exact (by (repeat (first | exact List.Mem.head _ | apply List.Mem.tail)); done); exact rfl; exact rfl) | (apply GP_ov; exact rfl; kernel_rfl; exact rfl; exact rfl; (first | (apply OV_idxS (A := B) (j := 0); exact rfl; exact rfl; exact rfl; exact rfl; exact rfl; exact hadr 0 (by omega); omega; omega) | (apply OV_load; exact rfl; exact Lv_ro rfl (hcc.le (by first | exact Le.refl _ | assumption | (repeat (first | assumption | (apply Le.trans; assumption))))) rfl) | (apply OV_sliceHi (hi := 0) (n := nr) (c := d3); exact rfl; exact rfl; exact rfl; exact rfl; exact rfl; omega; omega; exact hcp) | (apply OV_sliceLo (lo := 0 + 1) (n := nr) (c := d3); exact rfl; exact rfl; exact rfl; exact rfl; exact rfl; omega; omega)); exact (by repeat' (first | exact trivial | apply And.intro | exact List.Mem.head _ | apply List.Mem.tail))) | (apply GP_real; exact rfl; kernel_rfl; exact rfl; exact rfl; exact rfl; (first | (apply OpTo_store; exact rfl; exact rfl; exact rfl; exact (by (repeat (first | exact Repl.here | apply Repl.there)); done); exact rfl; exact rfl; exact rfl; refine ⟨Le.refl _, by (first | exact NdOk_no rfl | (apply NdOk_all; (repeat' (first | exact trivial | apply And.intro | exact List.Mem.head _ | apply List.Mem.tail)); done) | (apply NdOk_need; (repeat' (first | exact trivial | apply And.intro | exact List.Mem.head _ | apply List.Mem.tail)); done)), ?_⟩) | (apply OpTo_alloc; exact rfl; intro b; refine ⟨Le.refl _, by (first | exact NdOk_no rfl | (apply NdOk_all; (repeat' (first | exact trivial | apply And.intro | exact List.Mem.head _ | apply List.Mem.tail)); done) | (apply NdOk_need; (repeat' (first | exact trivial | apply And.intro | exact List.Mem.head _ | apply List.Mem.tail)); done)), ?_⟩) | (apply OpTo_res; exact rfl; exact has41; exact addLed_ok _ (hG'.le (by first | exact Le.refl _ | assumption | (repeat (first | assumption | (apply Le.trans; assumption))))) (hled.le (by first | exact Le.refl _ | assumption | (repeat (first | assumption | (apply Le.trans; assumption))))) p ⟨hfp.1.le (by first | exact Le.refl _ | assumption | (repeat (first | assumption | (apply Le.trans; assumption)))), hfp.2⟩ hT32 hTk hkp (by omega); rintro w6 h6 hle6 ⟨A6, k6, c6, l6, bl6, rfl, hL6⟩; refine ⟨hle6, by (first | exact NdOk_no rfl | (apply NdOk_all; (repeat' (first | exact trivial | apply And.intro | exact List.Mem.head _ | apply List.Mem.tail)); done) | (apply NdOk_need; (repeat' (first | exact trivial | apply And.intro | exact List.Mem.head _ | apply List.Mem.tail)); done)), ?_⟩) | (apply OpTo_res; exact rfl; exact has41; exact againLed_ok _ (hG'.le (by first | exact Le.refl _ | assumption | (repeat (first | assumption | (apply Le.trans; assumption))))) p (hL6.le (by first | exact Le.refl _ | assumption | (repeat (first | assumption | (apply Le.trans; assumption))))) ⟨hfp.1.le (by first | exact Le.refl _ | assumption | (repeat (first | assumption | (apply Le.trans; assumption)))), hfp.2⟩ (hT32' p hfp.1.void) (hTk' p hkp) (by omega); rintro w7 h7 hle7 ⟨A7, k7, c7, l7, rfl, hL7⟩; refine ⟨hle7, by (first | exact NdOk_no rfl | (apply NdOk_all; (repeat' (first | exact trivial | apply And.intro | exact List.Mem.head _ | apply List.Mem.tail)); done) | (apply NdOk_need; (repeat' (first | exact trivial | apply And.intro | exact List.Mem.head _ | apply List.Mem.tail)); done)), ?_⟩) | (apply OpTo_buildSliceO (n := 0); exact rfl; exact rfl; exact rfl; exact List.cons_ne_nil _ _; exact rfl; exact rfl; exact rfl; exact rfl; exact rfl; exact rfl; intro b8; refine ⟨Le.refl _, by (first | exact NdOk_no rfl | (apply NdOk_all; (repeat' (first | exact trivial | apply And.intro | exact List.Mem.head _ | apply List.Mem.tail)); done) | (apply NdOk_need; (repeat' (first | exact trivial | apply And.intro | exact List.Mem.head _ | apply List.Mem.tail)); done)), ?_⟩) | (apply OpTo_appendS (enc := encF82) (xs := []) (ys := R.take 0); exact rfl; exact rfl; exact rfl; exact rfl; exact rfl; exact rfl; exact rfl; exact ((hro.high (hi := 0) (c := d3) (by omega) hcp).le (by first | exact Le.refl _ | assumption | (repeat (first | assumption | (apply Le.trans; assumption))))); exact encF82_len; exact (fun x => allOne_ok (factC_one x.1 x.2)); intro v1; exact (by (repeat (first | exact Repl.here | apply Repl.there)); done); omega; exact rfl; intro A8 c8; refine ⟨Le.refl _, by (first | exact NdOk_no rfl | (apply NdOk_all; (repeat' (first | exact trivial | apply And.intro | exact List.Mem.head _ | apply List.Mem.tail)); done) | (apply NdOk_need; (repeat' (first | exact trivial | apply And.intro | exact List.Mem.head _ | apply List.Mem.tail)); done)), ?_⟩) | (apply OpTo_appendSR (enc := encF82) (n := 0 + 0) (xs := [] ++ R.take 0) (ys := R.drop (0 + 1)); exact rfl; exact rfl; exact rfl; exact rfl; exact rfl; exact rfl; exact rfl; exact ((hro.low (lo := 0 + 1) (c := d3) (by omega) hcp).le (by first | exact Le.refl _ | assumption | (repeat (first | assumption | (apply Le.trans; assumption))))); exact encF82_len; exact (fun x => allOne_ok (factC_one x.1 x.2)); exact (by (repeat (first | exact Take.here | apply Take.there)); done); (rw [List.nil_append, List.length_take]; omega); omega; exact rfl; intro A9 c9 h9 hle9 hnc9 hs9; refine ⟨hle9, by (first | exact NdOk_no rfl | (apply NdOk_all; (repeat' (first | exact trivial | apply And.intro | exact List.Mem.head _ | apply List.Mem.tail)); done) | (apply NdOk_need; (repeat' (first | exact trivial | apply And.intro | exact List.Mem.head _ | apply List.Mem.tail)); done)), ?_⟩))) | (apply GP_two; kernel_rfl; exact rfl; exact rfl) | (apply RealP_intro; exact rfl; exact rfl; exact rfl; exact rfl; (first | (apply OpTo_alloc; exact rfl; intro b; refine ⟨Le.refl _, by (first | exact NdOk_no rfl | (apply NdOk_all; (repeat' (first | exact trivial | apply And.intro | exact List.Mem.head _ | apply List.Mem.tail)); done) | (apply NdOk_need; (repeat' (first | exact trivial | apply And.intro | exact List.Mem.head _ | apply List.Mem.tail)); done)), ?_⟩) | (apply OpTo_res; exact rfl; exact has41; exact addLed_ok _ (hG'.le (by first | exact Le.refl _ | assumption | (repeat (first | assumption | (apply Le.trans; assumption))))) (hled.le (by first | exact Le.refl _ | assumption | (repeat (first | assumption | (apply Le.trans; assumption))))) p ⟨hfp.1.le (by first | exact Le.refl _ | assumption | (repeat (first | assumption | (apply Le.trans; assumption)))), hfp.2⟩ hT32 hTk hkp (by omega); rintro w6 h6 hle6 ⟨A6, k6, c6, l6, bl6, rfl, hL6⟩; refine ⟨hle6, by (first | exact NdOk_no rfl | (apply NdOk_all; (repeat' (first | exact trivial | apply And.intro | exact List.Mem.head _ | apply List.Mem.tail)); done) | (apply NdOk_need; (repeat' (first | exact trivial | apply And.intro | exact List.Mem.head _ | apply List.Mem.tail)); done)), ?_⟩) | (apply OpTo_res; exact rfl; exact has41; exact againLed_ok _ (hG'.le (by first | exact Le.refl _ | assumption | (repeat (first | assumption | (apply Le.trans; assumption))))) p (hL6.le (by first | exact Le.refl _ | assumption | (repeat (first | assumption | (apply Le.trans; assumption))))) ⟨hfp.1.le (by first | exact Le.refl _ | assumption | (repeat (first | assumption | (apply Le.trans; assumption)))), hfp.2⟩ (hT32' p hfp.1.void) (hTk' p hkp) (by omega); rintro w7 h7 hle7 ⟨A7, k7, c7, l7, rfl, hL7⟩; refine ⟨hle7, by (first | exact NdOk_no rfl | (apply NdOk_all; (repeat' (first | exact trivial | apply And.intro | exact List.Mem.head _ | apply List.Mem.tail)); done) | (apply NdOk_need; (repeat' (first | exact trivial | apply And.intro | exact List.Mem.head _ | apply List.Mem.tail)); done)), ?_⟩))) | (apply GP_done; kernel_rfl; exact rfl) | (apply GO_cond; exact rfl; all_goals intro hc; all_goals try simp only [ltI_t, ltI_f, leI_t, leI_f, eqI_t, eqI_f, Bool.not_eq_true', Bool.not_eq_false', decide_eq_true_eq, decide_eq_false_iff_not, reduceCtorEq] at hc; all_goals try (exfalso; omega)) | (apply GOl_split; exact rfl; exact rfl; all_goals intro hc; all_goals try simp only [ltI_t, ltI_f, leI_t, leI_f, eqI_t, eqI_f, Bool.not_eq_true', Bool.not_eq_false', decide_eq_true_eq, decide_eq_false_iff_not, reduceCtorEq] at hc; all_goals try (exfalso; omega)))
        all_goals (try (exfalso; omega))
        all_goals (try (exfalso; simp [eqI_eq] at hc; done))
        all_goals
          have h3 := ih ⟨i + 1, T ++ [p.2], [] ++ R.take (0) ++ R.drop (0 + 1), 0 + 0 + (nr - (0 + 1)), A7, k7, c7, l7, A9, c9, h9⟩ (hI.next (k := 0) (by dsimp only; omega) hpe (by first | exact Le.refl _ | assumption | (repeat (first | assumption | (apply Le.trans; assumption)))) (hL7.le (by first | exact Le.refl _ | assumption | (repeat (first | assumption | (apply Le.trans; assumption))))) rfl hs9 (by omega)) (by dsimp only; omega)
          dsimp only at h3
          refine GO_fit (by (repeat (first | exact trivial | refine ⟨rfl, ?_⟩)); done) (by (repeat (first | exact Takes_nil | (apply Takes_cons; exact (by (repeat (first | exact Take.here | apply Take.there)); done)))); done) (h3)
  · have hval := fun (hn : (n : Int) ≤ 14) h' (hl : Le h h') => by
      have := valid8_c h' A n c l ((hx.facts hn).le hl)
      rw [decide_eq_false hv] at this
      exact this
    repeat' (first | apply GO_seq | apply GO_skip | apply GO_region | apply GOl_nil | (apply GOl_unwanted; exact rfl; exact rfl) | (apply GOl_pv; exact rfl; exact rfl; exact rfl) | (apply GOl_to; exact rfl; exact rfl; exact rfl; (first | (apply OpTo_val; exact rfl; exact has30; exact hsane; skip) | (apply OpTo_res; exact rfl; exact has31; exact few8_c _ A n c l (hrow.le (by first | exact Le.refl _ | assumption | (repeat (first | assumption | (apply Le.trans; assumption))))) hsm 14; rintro w1 h1 hle1 ⟨b, rfl, hb⟩; cases b; all_goals skip) | (apply OpTo_val; exact rfl; exact has40; exact hval (hb rfl) _ (by first | exact Le.refl _ | assumption | (repeat (first | assumption | (apply Le.trans; assumption)))); skip))) | (apply GO_cond; exact rfl; all_goals intro hc; all_goals try simp only [ltI_t, ltI_f, leI_t, leI_f, eqI_t, eqI_f, Bool.not_eq_true', Bool.not_eq_false', decide_eq_true_eq, decide_eq_false_iff_not, reduceCtorEq] at hc; all_goals try (exfalso; omega)) | (apply GO_retV1; exact rfl; exact rfl; exact rfl))
    all_goals first
      | rfl
     
end Go.Hw

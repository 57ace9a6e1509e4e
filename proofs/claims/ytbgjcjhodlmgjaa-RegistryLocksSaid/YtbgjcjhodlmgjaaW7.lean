import Derived.Test.YtbgjcjhodlmgjaaW6
set_option linter.unusedVariables false
set_option linter.unusedSimpArgs false
set_option maxRecDepth 100000
set_option maxHeartbeats 1600000
namespace Go.Hw
open Go
attribute [local irreducible] GO GOl GDp Val Fn Res CellsAt ValE Blk OwnS MapA
open Go.Proofs (Try.prog)

def mapOf (l : List Ent) : List (Int × Sta) := l.foldl (fun m x => insA x.player (after ((lookA x.player m).getD st0) x) m) []
theorem mapOf_snoc (l : List Ent) (x : Ent) : mapOf (l ++ [x]) = insA x.player (after ((lookA x.player (mapOf l)).getD st0) x) (mapOf l) := by
  simp [mapOf, List.foldl_append]
theorem lookA_insA {κ α : Type} [DecidableEq κ] (x y : κ) (a : α) : ∀ (m : List (κ × α)), lookA y (insA x a m) = if x = y then some a else lookA y m
  | [] => by simp [insA, lookA]
  | (z, b) :: r => by
    by_cases hz : z = x
    · subst hz
      by_cases hy : z = y
      · simp [insA, lookA, hy]
      · simp [insA, lookA, hy]
    · by_cases hy : z = y
      · subst hy
        simp [insA, lookA, hz, Ne.symm hz]
      · simp [insA, lookA, hz, hy, lookA_insA x y a r]
theorem ofL_snoc (l : List Ent) (x : Ent) (p : Int) : ofL (l ++ [x]) p = if x.player = p then after (ofL l p) x else ofL l p := by
  simp [ofL, List.foldl_append]
theorem rev_ind {α : Type} {P : List α → Prop} (h0 : P []) (h1 : ∀ l x, P l → P (l ++ [x])) (l : List α) : P l := by
  have : ∀ n (l : List α), l.length = n → P l := by
    intro n
    induction n with
    | zero => intro l e; rw [List.length_eq_zero_iff.1 e]; exact h0
    | succ n ih =>
      intro l e
      have hne : l ≠ [] := by intro e2; simp [e2] at e
      rw [← List.dropLast_concat_getLast hne]
      exact h1 _ _ (ih _ (by simp [e]))
  exact this _ l rfl
theorem mapOf_look (l : List Ent) (p : Int) : (lookA p (mapOf l)).getD st0 = ofL l p := by
  induction l using rev_ind with
  | h0 => rfl
  | h1 l x ih =>
    rw [mapOf_snoc, lookA_insA, ofL_snoc]
    by_cases h : x.player = p
    · subst h; simp [ih]
    · simp [h, ih]

/-- The day of a registry's book, if all entries fit. -/
def bookOf (clubs : List Int) : Int → List Ent → List Ent → Option Int
  | d, _, [] => some d
  | d, acc, y :: r => if addE clubs d acc y = 0 then bookOf clubs y.day (acc ++ [y]) r else none
def RegGood (r : Reg) : Prop := OpenOk r.league r.clubs ∧ bookOf r.clubs 0 [] r.ents = some r.day
theorem addS_eq (clubs : List Int) (d : Int) (l : List Ent) (x : Ent) : addS clubs d l.length ((lookA x.player (mapOf l)).getD st0) x = addE clubs d l x := by
  rw [mapOf_look]; rfl
theorem drop_consE {xs : List Ent} {k n : Nat} (hlen : xs.length = n) (hk : k < n) : xs.drop k = xs.getD k ⟨0,0,0,0,0,0,0⟩ :: xs.drop (k + 1) := by
  rw [List.drop_eq_getElem_cons (by omega)]; simp [List.getD, List.getElem?_eq_getElem (show k < xs.length by omega)]
theorem take_snocE {xs : List Ent} {k n : Nat} (hlen : xs.length = n) (hk : k < n) : xs.take (k + 1) = xs.take k ++ [xs.getD k ⟨0,0,0,0,0,0,0⟩] := by
  rw [List.take_succ_eq_append_getElem (by omega)]; simp [List.getD, List.getElem?_eq_getElem (show k < xs.length by omega)]

def openPost (r : Reg) (s : Rsh) : Value → List Asn → Ro → Prop := fun v Es h' =>
  (RegGood r ∧ ∃ bb mb A c, v = .tuple #[.pointer (some ⟨bb, 0, none⟩), .bool true] ∧ Es = Book bb mb r.league r.day s (.slice A r.ents.length c) (mapOf r.ents) r.ents) ∨
  (¬ RegGood r ∧ ∃ p, v = .tuple #[.pointer p, .bool false] ∧ Es = [])


theorem open_c (h : Ro) (s : Rsh) (r : Reg) (hr : RegAt h s r) : Fn Try.prog 31 #[regV r.league r.day s] [] h (openPost r s) := by
  refine Fn_intro (args := [_]) ts_ok Go.Proofs.Try.func31 rfl rfl fun w0 X0 => ?_
  have hlen := hr.ents.len
  have hne := hr.ne
  by_cases hO : OpenOk r.league r.clubs
  · repeat' (first | apply GO_seq | apply GO_skip | apply GO_block | apply GO_region | apply GOl_nil | (apply GOl_pv; exact rfl; exact rfl; exact rfl) | (apply GOl_load; exact rfl; exact Ld_blk rfl (by (repeat (first | exact List.Mem.head _ | apply List.Mem.tail)); done) rfl; exact rfl; exact rfl) | (apply GOl_to; exact rfl; exact rfl; exact rfl; (first | (apply OpTo_store; exact rfl; exact rfl; exact rfl; exact (by (repeat (first | exact Repl.here | apply Repl.there)); done); exact rfl; exact rfl; exact rfl; skip) | (apply OpTo_box; exact rfl; intro b; skip) | (apply OpTo_alloc; exact rfl; intro b; skip) | (apply OpTo_val; exact rfl; exact has11; (have := new_c h r.league _ _ s.cc r.clubs hr.clubs hr.nc; rw [if_pos hO] at this; exact this); skip) | (apply OpTo_makeMap (fun i : Int => .int .i64 i) staV; intro b1; skip))) | (apply GO_cond; exact rfl; all_goals intro hc; all_goals try simp only [ltI_t, ltI_f, leI_t, leI_f, eqI_t, eqI_f, Bool.not_eq_true', Bool.not_eq_false', decide_eq_true_eq, decide_eq_false_iff_not, reduceCtorEq] at hc; all_goals try (exfalso; omega)))
    rename_i b0 b2
    rename Nat => bB
    refine GO_nilS 27 7 ?_
    refine GO_loopT (X := Nat × Int × Value × Ro) (fun x => x.1 ≤ s.ne ∧ Le h x.2.2.2 ∧ bookOf r.clubs 0 [] r.ents = bookOf r.clubs x.2.1 (r.ents.take x.1) (r.ents.drop x.1)) (fun x => s.ne - x.1)
      (fun x => [(25, .int .i64 x.1), (24, .int .i64 s.ne), (23, .slice s.ae s.ne s.ce), (2, .pointer (some ⟨bB, 0, none⟩)), (1, .pointer (some ⟨b0, 0, none⟩))])
      (fun x => [Blk bB 59 [.int .i64 r.league, .slice s.ac s.nc s.cc, .int .i64 x.2.1, x.2.2.1, .map (some b1)], PlA b1 (mapOf (r.ents.take x.1)), OwnS 27 7 x.2.2.1 (r.ents.take x.1).length ((r.ents.take x.1).flatMap encE), Blk b0 25 (partL (regV r.league r.day s))]) (fun x => x.2.2.2) (0, 0, .slice none 0 0, h) ?_ (by (repeat (first | exact trivial | refine ⟨rfl, ?_⟩)); done) (by (repeat (first | exact Takes_nil | (apply Takes_cons; exact (by (repeat (first | exact Take.here | apply Take.there)); done)))); done) rfl ?_
    · exact ⟨by omega, Le.refl _, rfl⟩
    rintro ⟨k, d, v, hk⟩ ⟨hkn, hlk, hI⟩ ih
    dsimp only at hkn hlk hI ih ⊢
    have e0 : (r.ents.take k).length = k := by simp; omega
    repeat' (first | apply GO_seq | apply GO_skip | apply GO_block | apply GO_region | apply GOl_nil | (apply GO_exit; exact rfl) | (apply GOl_pv; exact rfl; exact rfl; exact rfl) | (apply GO_drawp (n := 11) [0, 1, 2, 3, 4, 5, 6, 7, 8, 9, 10] [(0, 0), (1, 0), (2, 0), (3, 0), (4, 0), (5, 0), (6, 0), (7, 0), (8, 0), (9, 0), (10, 0)]; kernel_rfl) | (apply GP_pv; exact rfl; kernel_rfl; exact rfl; exact rfl; exact rfl) | (apply GP_loadB; exact rfl; kernel_rfl; exact rfl; exact rfl; exact rfl; exact (by (repeat (first | exact List.Mem.head _ | apply List.Mem.tail)); done); exact rfl; exact rfl) | (apply GP_done; kernel_rfl; exact rfl) | (apply GO_cond; exact rfl; all_goals intro hc; all_goals try simp only [ltI_t, ltI_f, leI_t, leI_f, eqI_t, eqI_f, Bool.not_eq_true', Bool.not_eq_false', decide_eq_true_eq, decide_eq_false_iff_not, reduceCtorEq] at hc; all_goals try (exfalso; omega)))
    · have hkn2 : k < s.ne := by omega
      have hcl : SlOf encI 1 hk s.ac s.nc r.clubs := hr.clubs.le hlk
      obtain ⟨ad, had⟩ := hr.ents.addr (by omega)
      have hents := hr.ents
      rw [had] at hents ⊢
      have c1 := (hents.cells ⟨0,0,0,0,0,0,0⟩ hkn2).le hlk
      have eS := addS_eq r.clubs d (r.ents.take k) (r.ents.getD k ⟨0,0,0,0,0,0,0⟩)
      repeat' (first | apply GO_seq | apply GO_skip | apply GO_inBlock | apply GO_region | apply GOl_nil | (apply GOl_add; exact rfl; exact rfl; exact rfl; omega; exact rfl; exact rfl) | (apply GOl_pv; exact rfl; exact rfl; exact rfl) | (apply GOl_load; exact rfl; exact Ld_blk rfl (by (repeat (first | exact List.Mem.head _ | apply List.Mem.tail)); done) rfl; exact rfl; exact rfl) | (apply GOl_ov; exact rfl; exact rfl; (first | (apply OV_load; exact rfl; first | exact Lv_ro rfl (by assumption) rfl | exact Lv_roF rfl (by assumption) rfl | exact Lv_roF2 rfl (by assumption) rfl | exact Lv_roF3 rfl (by assumption) rfl) | (apply OV_idx; exact rfl; exact rfl; exact rfl; exact rfl; exact rfl; exact rfl; first | assumption | omega)); exact (by repeat' (first | exact trivial | apply And.intro | exact List.Mem.head _ | apply List.Mem.tail))) | (apply GOl_to; exact rfl; exact rfl; exact rfl; (first | (apply OpTo_store; exact rfl; exact rfl; exact rfl; exact (by (repeat (first | exact Repl.here | apply Repl.there)); done); exact rfl; exact rfl; exact rfl; skip) | (apply OpTo_alloc; exact rfl; intro b; skip) | (apply OpTo_callP; exact rfl; exact has32; exact addB_c hk bB b1 r.league d s v (mapOf (r.ents.take k)) (r.ents.take k) (r.ents.getD k ⟨0,0,0,0,0,0,0⟩) r.clubs hcl hr.nc; exact (by (repeat (first | exact Takes_nil | (apply Takes_cons; exact (by (repeat (first | exact Take.here | apply Take.there)); done)))); done); rintro va Ea ha hla ⟨rfl, (⟨h0, A', c', rfl⟩ | ⟨h0, rfl⟩)⟩; all_goals skip))) | (apply GO_cond; exact rfl; all_goals intro hc; all_goals try simp only [ltI_t, ltI_f, leI_t, leI_f, eqI_t, eqI_f, Bool.not_eq_true', Bool.not_eq_false', decide_eq_true_eq, decide_eq_false_iff_not, reduceCtorEq] at hc; all_goals try (exfalso; omega)))
      rotate_left
      · refine GO_retS2 (Fs := []) rfl rfl rfl rfl (List.nil_sublist _) (.inr ⟨?_, none, rfl, rfl⟩)
        rintro ⟨_, hb⟩
        rw [hI, drop_consE hlen hkn2, bookOf, if_neg (by rw [← eS]; exact h0)] at hb
        cases hb
      · have h2 := ih (k + 1, (r.ents.getD k ⟨0,0,0,0,0,0,0⟩).day, .slice A' ((r.ents.take k).length + 1) c', ha) ⟨by show k + 1 ≤ s.ne; omega, hlk.trans hla, ?_⟩ (by show s.ne - (k + 1) < s.ne - k; omega)
        · dsimp only at h2
          rw [take_snocE hlen hkn2, mapOf_snoc] at h2
          rw [had] at h2
          refine GO_fit (by (repeat (first | exact trivial | refine ⟨rfl, ?_⟩)); done) (by (repeat (first | exact Takes_nil | (apply Takes_cons; exact (by (repeat (first | exact Take.here | apply Take.there)); done)))); done) (h2)
        · show _ = bookOf r.clubs (r.ents.getD k ⟨0,0,0,0,0,0,0⟩).day (r.ents.take (k + 1)) (r.ents.drop (k + 1))
          rw [hI, drop_consE hlen hkn2, bookOf, if_pos (by rw [← eS]; exact h0), take_snocE hlen hkn2]
    · have hke : k = s.ne := by omega
      have ht : r.ents.take k = r.ents := List.take_of_length_le (by omega)
      have hd : r.ents.drop k = [] := List.drop_eq_nil_of_le (by omega)
      rw [ht]
      rw [ht, hd] at hI
      refine GO_openS (by (repeat (first | exact List.Mem.head _ | apply List.Mem.tail)); done) ?_
      rintro A c rfl
      by_cases hdd : d = r.day
      · refine GO_retS2 rfl rfl rfl rfl (.cons_cons _ (.cons_cons _ (.cons_cons _ (List.nil_sublist _)))) (.inl ⟨⟨hO, by rw [hI, bookOf, hdd]⟩, bB, b1, A, c, ?_, ?_⟩)
        · rw [eqI_eq, decide_eq_true hdd]; try rfl
        · rw [hdd]; try rfl
      · refine GO_retS2 (Fs := []) rfl rfl rfl rfl (List.nil_sublist _) (.inr ⟨?_, some ⟨bB, 0, none⟩, ?_, rfl⟩)
        · rintro ⟨_, hb⟩; rw [hI, bookOf] at hb; injection hb with hb; first | exact hdd hb | skip
        · rw [eqI_eq, decide_eq_false hdd]; try rfl
  · repeat' (first | apply GO_seq | apply GO_region | apply GOl_nil | (apply GOl_pv; exact rfl; exact rfl; exact rfl) | (apply GOl_load; exact rfl; exact Ld_blk rfl (by (repeat (first | exact List.Mem.head _ | apply List.Mem.tail)); done) rfl; exact rfl; exact rfl) | (apply GOl_to; exact rfl; exact rfl; exact rfl; (first | (apply OpTo_store; exact rfl; exact rfl; exact rfl; exact (by (repeat (first | exact Repl.here | apply Repl.there)); done); exact rfl; exact rfl; exact rfl; skip) | (apply OpTo_box; exact rfl; intro b; skip) | (apply OpTo_alloc; exact rfl; intro b; skip) | (apply OpTo_val; exact rfl; exact has11; (have := new_c h r.league _ _ s.cc r.clubs hr.clubs hr.nc; rw [if_neg hO] at this; exact this); skip))) | (apply GO_cond; exact rfl; all_goals intro hc; all_goals try simp only [ltI_t, ltI_f, leI_t, leI_f, eqI_t, eqI_f, Bool.not_eq_true', Bool.not_eq_false', decide_eq_true_eq, decide_eq_false_iff_not, reduceCtorEq] at hc; all_goals try (exfalso; omega)))
    refine GO_retS2 (Fs := []) rfl rfl rfl rfl (List.nil_sublist _) (.inr ⟨fun hg => hO hg.1, _, rfl, rfl⟩)

open Classical in

theorem check_c (h : Ro) (s : Rsh) (r : Reg) (hr : RegAt h s r) : Val Try.prog 16 #[regV r.league r.day s] h (.int .i64 (if RegGood r then 0 else 360)) := by
  refine Val_intro (args := [_]) ts_ok Go.Proofs.Try.func16 rfl rfl fun w0 X0 => ?_
  repeat' (first | apply GO_seq | apply GO_skip | apply GO_region | apply GOl_nil | (apply GOl_pv; exact rfl; exact rfl; exact rfl) | (apply GOl_load; exact rfl; exact Ld_blk rfl (by (repeat (first | exact List.Mem.head _ | apply List.Mem.tail)); done) rfl; exact rfl; exact rfl) | (apply GOl_to; exact rfl; exact rfl; exact rfl; (first | (apply OpTo_box; exact rfl; intro b; skip) | (apply OpTo_callP; exact rfl; exact has31; exact open_c h s r hr; exact (by (repeat (first | exact Takes_nil | (apply Takes_cons; exact (by (repeat (first | exact Take.here | apply Take.there)); done)))); done); rintro va Ea ha hla (⟨hg, bb, mb, A, c, rfl, rfl⟩ | ⟨hg, p, rfl, rfl⟩); all_goals skip))) | (apply GO_cond; exact rfl; all_goals intro hc; all_goals try simp only [ltI_t, ltI_f, leI_t, leI_f, eqI_t, eqI_f, Bool.not_eq_true', Bool.not_eq_false', decide_eq_true_eq, decide_eq_false_iff_not, reduceCtorEq] at hc; all_goals try (exfalso; omega)) | (apply GO_retV1; exact rfl; exact rfl; exact rfl))
  · rw [if_pos hg]
  · rw [if_neg hg]
end Go.Hw


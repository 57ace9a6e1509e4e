import Derived.Test.YtbgjcjhodlmgjaaW16
set_option linter.unusedVariables false
set_option linter.unusedSimpArgs false
set_option maxRecDepth 100000
set_option maxHeartbeats 1600000
namespace Go.Hw
open Go
attribute [local irreducible] GO GOl GDp Val Fn Res CellsAt ValE Blk OwnS MapA RngA
open Go.Proofs (Try.prog)

/-- The library's sort. -/
def SortSaid : Prop := ∀ (e : TypeId) (v : Value) (xs : List Int) (n : Nat) (h : Ro), n ≤ 1000000000 → xs.length = n → Fn Try.prog 38 #[v] [OwnS e 1 v n (xs.flatMap encI)] h fun u Es _ => u = .tuple #[] ∧ Es = [OwnS e 1 v n ((sortI xs).flatMap encI)]

theorem perm_yes {club : Int} {out : List Int} {r1 r2 : List (Int × Sta)} {q : Int × Sta} {T : List Int} (h : (out ++ ((r1 ++ q :: r2).filter (okS club)).map (·.1)).Perm T) (ho : okS club q = true) : ((out ++ [q.1]) ++ ((r1 ++ r2).filter (okS club)).map (·.1)).Perm T := by
  refine List.Perm.trans ?_ h
  simp only [List.filter_append, List.filter_cons, ho, if_true, List.map_append, List.map_cons, List.append_assoc, List.singleton_append]
  exact List.Perm.append_left _ List.perm_middle.symm
theorem perm_no {club : Int} {out : List Int} {r1 r2 : List (Int × Sta)} {q : Int × Sta} {T : List Int} (h : (out ++ ((r1 ++ q :: r2).filter (okS club)).map (·.1)).Perm T) (ho : okS club q = false) : (out ++ ((r1 ++ r2).filter (okS club)).map (·.1)).Perm T := by
  simpa only [List.filter_append, List.filter_cons, ho, Bool.false_eq_true, if_false, List.map_append] using h


theorem regSquad_c (hS : SortSaid) (h : Ro) (s : Rsh) (r : Reg) (hr : RegAt h s r) (club : Int) : Res Try.prog 23 #[regV r.league r.day s, .int .i64 club] h (fun v h' => ∃ A c, v = .slice A (squadL r club).length c ∧ SlOf encI 1 h' A (squadL r club).length (squadL r club)) := by
  refine Res_intro (args := [_, _]) ts_ok Go.Proofs.Try.func23 rfl rfl fun w0 X0 => ?_
  have hlen := hr.ents.len
  have hne := hr.ne
  have hml := mapOf_len r.ents
  by_cases hg : RegGood r
  · have hopen : Fn Try.prog 31 #[regV r.league r.day s] [] h (fun v Es h' => ∃ bb mb A c, v = .tuple #[.pointer (some ⟨bb, 0, none⟩), .bool true] ∧ Es = Book bb mb r.league r.day s (.slice A r.ents.length c) (mapOf r.ents) r.ents) :=
      Fn.mono (open_c h s r hr) fun v Es h' hl hp => by
        rcases hp with ⟨_, q⟩ | ⟨hn, _⟩
        · exact q
        · exact absurd hg hn
    repeat' (first | apply GO_seq | apply GO_skip | apply GO_block | apply GO_region | apply GOl_nil | (apply GOl_pv; exact rfl; exact rfl; exact rfl) | (apply GOl_load; exact rfl; exact Ld_blk rfl (by (repeat (first | exact List.Mem.head _ | apply List.Mem.tail)); done) rfl; exact rfl; exact rfl) | (apply GOl_to; exact rfl; exact rfl; exact rfl; (first | (apply OpTo_box; exact rfl; intro b; skip) | (apply OpTo_callP; exact rfl; exact has31; exact hopen; exact (by (repeat (first | exact Takes_nil | (apply Takes_cons; exact (by (repeat (first | exact Take.here | apply Take.there)); done)))); done); rintro va Ea ha hla ⟨bb, mb, A, c, rfl, rfl⟩; skip) | (apply OpTo_range (ek := fun i : Int => .int .i64 i) (ev := staV); exact rfl; exact rfl; exact rfl; intro rr; exact (by (repeat (first | exact Repl.here | apply Repl.there)); done); intro rr; skip))) | (apply GO_cond; exact rfl; all_goals intro hc; all_goals try simp only [ltI_t, ltI_f, leI_t, leI_f, eqI_t, eqI_f, Bool.not_eq_true', Bool.not_eq_false', decide_eq_true_eq, decide_eq_false_iff_not, reduceCtorEq] at hc; all_goals try (exfalso; omega)))
    generalize b = bP
    refine GO_nilS 3 1 ?_
    refine GO_loopT (X := List Int × List (Int × Sta) × Option (Int × Sta) × Option Addr × Nat × Ro) (fun x => Le h x.2.2.2.2.2 ∧ (x.1 ++ (x.2.1.filter (okS club)).map (·.1)).Perm (((mapOf r.ents).filter (okS club)).map (·.1)) ∧ x.1.length + x.2.1.length ≤ (mapOf r.ents).length) (fun x => x.2.1.length)
      (fun x => [(20, .pointer (some ⟨rr, 0, none⟩)), (4, .slice x.2.2.2.1 x.1.length x.2.2.2.2.1), (1, .int .i64 club)])
      (fun x => [RngA (fun i => Value.int IntKind.i64 i) staV mb rr (mapOf r.ents) x.2.1 x.2.2.1, OwnS 3 1 (.slice x.2.2.2.1 x.1.length x.2.2.2.2.1) x.1.length (x.1.flatMap encI)]) (fun x => x.2.2.2.2.2) ([], mapOf r.ents, none, none, 0, ha) ⟨hla, .refl _, by simp⟩ (by (repeat (first | exact trivial | refine ⟨rfl, ?_⟩)); done) (by (repeat (first | exact Takes_nil | (apply Takes_cons; exact (by (repeat (first | exact Take.here | apply Take.there)); done)))); done) rfl ?_
    rintro ⟨out, rem, cur, A9, c9, hk⟩ ⟨hlk, hI, hln⟩ ih
    dsimp only at hlk hI hln ih ⊢
    repeat' (first | apply GO_seq | apply GO_skip | apply GO_inBlock | apply GO_block | apply GO_region | apply GOl_nil | (apply GO_exit; exact rfl) | (apply GOl_unwanted; exact rfl; exact rfl) | (apply GOl_pv; exact rfl; exact rfl; exact rfl) | (apply GOl_load; exact rfl; exact Ld_blk rfl (by (repeat (first | exact List.Mem.head _ | apply List.Mem.tail)); done) rfl; exact rfl; exact rfl) | (apply GOl_ov; exact rfl; exact rfl; (first | (apply OV_entry (ek := fun i : Int => .int .i64 i) (ev := staV) (b := mb) (m := mapOf r.ents) (rem := r1 ++ r2) (p := q); exact rfl)); exact (by repeat' (first | exact trivial | apply And.intro | exact List.Mem.head _ | apply List.Mem.tail))) | (apply GOl_to; exact rfl; exact rfl; exact rfl; (first | (apply OpTo_store; exact rfl; exact rfl; exact rfl; exact (by (repeat (first | exact Repl.here | apply Repl.there)); done); exact rfl; exact rfl; exact rfl; skip) | (apply OpTo_alloc; exact rfl; intro b; skip) | (apply OpTo_next; exact rfl; intro rem' cur'; exact (by (repeat (first | exact Repl.here | apply Repl.there)); done); intro hrem; rotate_left; intro q r1 r2 hrem; rotate_left; all_goals skip) | (apply OpTo_callP; exact rfl; exact has38; exact hS 3 _ out out.length hk (by omega) rfl; exact (by (repeat (first | exact Takes_nil | (apply Takes_cons; exact (by (repeat (first | exact Take.here | apply Take.there)); done)))); done); rintro vs Ea2 ha2 hla2 ⟨rfl, rfl⟩; skip) | (apply OpTo_buildSliceS (enc := encI) (n := 1) [_]; exact rfl; exact rfl; exact rfl; exact List.cons_ne_nil _ _; exact rfl; exact rfl; exact rfl; exact rfl; exact fun _ => rfl; exact rfl; exact rfl; intro b1 h1 hle1 hs1; skip) | (apply OpTo_appendS (enc := encI) (xs := out); exact rfl; exact rfl; exact rfl; exact rfl; exact rfl; exact rfl; exact rfl; exact hs1; exact fun _ => rfl; exact fun _ => allOne_ok rfl; intro v1; exact (by (repeat (first | exact Repl.here | apply Repl.there)); done); (have hq9 := congrArg List.length hrem; simp at hq9; omega); exact rfl; intro A1 c1; skip) | (apply OpTo_val; exact rfl; exact has36; exact plays_c _ _; skip))) | (apply GO_cond; exact rfl; all_goals intro hc; all_goals try simp only [ltI_t, ltI_f, leI_t, leI_f, eqI_t, eqI_f, Bool.not_eq_true', Bool.not_eq_false', decide_eq_true_eq, decide_eq_false_iff_not, reduceCtorEq] at hc; all_goals try (exfalso; omega)) | (apply GOl_split; exact rfl; exact rfl; all_goals intro hc; all_goals try simp only [ltI_t, ltI_f, leI_t, leI_f, eqI_t, eqI_f, Bool.not_eq_true', Bool.not_eq_false', decide_eq_true_eq, decide_eq_false_iff_not, reduceCtorEq] at hc; all_goals try (exfalso; omega)))
    · have hf := hI
      rw [hrem] at hf
      simp only [List.filter_nil, List.map_nil, List.append_nil] at hf
      have e := squad_sorted hg club hf
      have el := sortI_len out
      rw [e] at el ⊢
      refine GO_relC (enc := encI) (e := 3) (sz := 1) (n := out.length) (xs := squadL r club) (fun _ => rfl) el (by (repeat (first | exact Take.here | apply Take.there)); done) ?_
      intro A2 c2 h2 hle2 e2 hnc2 hs2
      injection e2 with e21 _ e23
      subst e21; subst e23
      (first | (apply GO_retR1; exact rfl; exact rfl; exact rfl))
      rw [el]
      exact ⟨A9, c9, rfl, hs2⟩
    all_goals
      have hq9 := congrArg List.length hrem
      simp only [List.length_append, List.length_cons] at hq9
      rw [hrem] at hI
    all_goals first
      | (have ho : okS club q = true := by unfold okS; simp only [ne_eq, decide_eq_true_eq]; exact ⟨by assumption, by assumption⟩
         have h2 := ih (out ++ [q.1], r1 ++ r2, some q, A1, c1, h1) ⟨hlk.trans hle1, perm_yes hI ho, by simp; omega⟩ (by simp; omega)
         dsimp only at h2
         rw [List.length_append] at h2
         refine GO_fit (by (repeat (first | exact trivial | refine ⟨rfl, ?_⟩)); done) (by (repeat (first | exact Takes_nil | (apply Takes_cons; exact (by (repeat (first | exact Take.here | apply Take.there)); done)))); done) (h2))
      | (have ho : okS club q = false := by unfold okS; simp only [ne_eq, decide_eq_false_iff_not]; rintro ⟨z1, z2⟩; contradiction
         have h2 := ih (out, r1 ++ r2, some q, A9, c9, hk) ⟨hlk, perm_no hI ho, by simp; omega⟩ (by simp; omega)
         refine GO_fit (by (repeat (first | exact trivial | refine ⟨rfl, ?_⟩)); done) (by (repeat (first | exact Takes_nil | (apply Takes_cons; exact (by (repeat (first | exact Take.here | apply Take.there)); done)))); done) (h2))
  · have hopen : Fn Try.prog 31 #[regV r.league r.day s] [] h (fun v Es h' => ∃ p, v = .tuple #[.pointer p, .bool false] ∧ Es = []) :=
      Fn.mono (open_c h s r hr) fun v Es h' hl hp => by
        rcases hp with ⟨hn, _⟩ | ⟨_, q⟩
        · exact absurd hn hg
        · exact q
    repeat' (first | apply GO_seq | apply GO_region | apply GOl_nil | (apply GOl_pv; exact rfl; exact rfl; exact rfl) | (apply GOl_load; exact rfl; exact Ld_blk rfl (by (repeat (first | exact List.Mem.head _ | apply List.Mem.tail)); done) rfl; exact rfl; exact rfl) | (apply GOl_to; exact rfl; exact rfl; exact rfl; (first | (apply OpTo_box; exact rfl; intro b; skip) | (apply OpTo_callP; exact rfl; exact has31; exact hopen; exact (by (repeat (first | exact Takes_nil | (apply Takes_cons; exact (by (repeat (first | exact Take.here | apply Take.there)); done)))); done); rintro va Ea ha hla ⟨p, rfl, rfl⟩; skip))) | (apply GO_cond; exact rfl; all_goals intro hc; all_goals try simp only [ltI_t, ltI_f, leI_t, leI_f, eqI_t, eqI_f, Bool.not_eq_true', Bool.not_eq_false', decide_eq_true_eq, decide_eq_false_iff_not, reduceCtorEq] at hc; all_goals try (exfalso; omega)) | (apply GO_retR1; exact rfl; exact rfl; exact rfl))
    rw [squad_bad hg]
    exact ⟨none, 0, rfl, SlOf.nil⟩
end Go.Hw


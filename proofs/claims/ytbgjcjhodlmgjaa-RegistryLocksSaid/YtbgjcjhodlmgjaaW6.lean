import Derived.Test.YtbgjcjhodlmgjaaW5
set_option linter.unusedVariables false
set_option linter.unusedSimpArgs false
set_option maxRecDepth 100000
set_option maxHeartbeats 1600000
namespace Go.Hw
open Go
attribute [local irreducible] GO GOl GDp Val Fn Res CellsAt ValE
open Go.Proofs (Try.prog)

/-- A book: its own block, its map, its entries. -/
def Book (bb mb : Nat) (lg d : Int) (s : Rsh) (v : Value) (m : List (Int × Sta)) (l : List Ent) : List Asn :=
  [Blk bb 59 [.int .i64 lg, .slice s.ac s.nc s.cc, .int .i64 d, v, .map (some mb)], PlA mb m, OwnS 27 7 v l.length (l.flatMap encE)]
def addS (clubs : List Int) (d : Int) (n : Nat) (st : Sta) (x : Ent) : Int := if 65536 ≤ n then 2 else if ¬ ValidX clubs d x then 360 else fits st x

theorem kind_of_valid {clubs : List Int} {d : Int} {x : Ent} (h : ValidX clubs d x) : 1 ≤ x.kind ∧ x.kind ≤ 6 := by unfold ValidX at h; omega


theorem addB_c (h : Ro) (bb mb : Nat) (lg d : Int) (s : Rsh) (v : Value) (m : List (Int × Sta)) (l : List Ent) (x : Ent) (clubs : List Int) (hr : SlOf encI 1 h s.ac s.nc clubs) (hn : s.nc ≤ 1000000000) :
    Fn Try.prog 32 #[.pointer (some ⟨bb, 0, none⟩), entV x] (Book bb mb lg d s v m l) h fun u Es _ => u = .int .i64 (addS clubs d l.length ((lookA x.player m).getD st0) x) ∧
      ((addS clubs d l.length ((lookA x.player m).getD st0) x = 0 ∧ ∃ A' c', Es = Book bb mb lg x.day s (.slice A' (l.length + 1) c') (insA x.player (after ((lookA x.player m).getD st0) x) m) (l ++ [x])) ∨ (addS clubs d l.length ((lookA x.player m).getD st0) x ≠ 0 ∧ Es = [])) := by
  refine Fn_intro (args := [_, _]) ts_ok Go.Proofs.Try.func32 rfl rfl fun w0 X0 => ?_
  unfold Book
  refine GO_openS (by (repeat (first | exact List.Mem.head _ | apply List.Mem.tail)); done) ?_
  rintro A c rfl
  obtain ⟨t, ht1, ht2⟩ : ∃ t, (ValidX clubs d x → fits ((lookA x.player m).getD st0) x = 0 → t = after ((lookA x.player m).getD st0) x) ∧ (ValidX clubs d x → Val Try.prog 43 #[staV ((lookA x.player m).getD st0), entV x] h (.tuple #[staV t, .int .i64 (fits ((lookA x.player m).getD st0) x)])) := by
    by_cases hV : ValidX clubs d x
    · obtain ⟨t, ht1, ht2⟩ := next_c h ((lookA x.player m).getD st0) x (kind_of_valid hV)
      exact ⟨t, fun _ => ht1, fun _ => ht2⟩
    · exact ⟨st0, fun h => absurd h hV, fun h => absurd h hV⟩
  repeat' (first | apply GO_seq | apply GO_skip | apply GO_inBlock | apply GO_block | apply GO_region | apply GOl_nil | (apply GOl_pv; exact rfl; exact rfl; exact rfl) | (apply GOl_load; exact rfl; exact Ld_blk rfl (by (repeat (first | exact List.Mem.head _ | apply List.Mem.tail)); done) rfl; exact rfl; exact rfl) | (apply GOl_to; exact rfl; exact rfl; exact rfl; (first | (apply OpTo_store; exact rfl; exact rfl; exact rfl; exact (by (repeat (first | exact Repl.here | apply Repl.there)); done); exact rfl; exact rfl; exact rfl; skip) | (apply OpTo_box; exact rfl; intro b; skip))) | (apply GO_drawp (n := 3) [0, 1, 2, 3, 4, 5, 6] [(0, 0), (1, 0), (2, 0), (3, 0), (4, 1), (5, 0), (6, 0)]; kernel_rfl) | (apply GO_drawp (n := 5) [0, 1, 2, 3, 4, 5, 6, 7, 8, 9, 11, 12, 10, 13] [(0, 0), (1, 0), (2, 0), (3, 0), (4, 0), (6, 0), (5, 2), (14, 11), (7, 2), (6, 11), (8, 0), (9, 0), (10, 0), (11, 1), (12, 1), (13, 0), (7, 1), (8, 0), (9, 0), (10, 0), (12, 1), (13, 0), (5, 1), (7, 1), (8, 0), (9, 0), (10, 0), (12, 1), (13, 0)]; kernel_rfl) | (apply GO_drawp (n := 8) [0, 1, 2, 3, 4, 5, 6, 7] [(0, 0), (1, 0), (2, 0), (3, 0), (4, 0), (5, 0), (6, 0), (7, 1)]; kernel_rfl) | (apply GO_drawp (n := 9) [0, 1, 2, 3, 4, 5, 6, 7, 8, 9, 10, 11, 12] [(0, 0), (1, 0), (2, 0), (3, 0), (4, 0), (5, 0), (6, 0), (7, 1), (8, 1), (9, 0), (10, 0), (11, 0), (12, 1)]; kernel_rfl) | (apply GP_pv; exact rfl; kernel_rfl; exact rfl; exact rfl; exact rfl) | (apply GP_loadB; exact rfl; kernel_rfl; exact rfl; exact rfl; exact rfl; exact (by (repeat (first | exact List.Mem.head _ | apply List.Mem.tail)); done); exact rfl; exact rfl) | (apply GP_real; exact rfl; kernel_rfl; exact rfl; exact rfl; exact rfl; (first | (apply OpTo_store; exact rfl; exact rfl; exact rfl; exact (by (repeat (first | exact Repl.here | apply Repl.there)); done); exact rfl; exact rfl; exact rfl; refine ⟨Le.refl _, by (first | exact NdOk_no rfl | (apply NdOk_all; (repeat' (first | exact trivial | apply And.intro | exact List.Mem.head _ | apply List.Mem.tail)); done) | (apply NdOk_need; (repeat' (first | exact trivial | apply And.intro | exact List.Mem.head _ | apply List.Mem.tail)); done)), ?_⟩) | (apply OpTo_alloc; exact rfl; intro b; refine ⟨Le.refl _, by (first | exact NdOk_no rfl | (apply NdOk_all; (repeat' (first | exact trivial | apply And.intro | exact List.Mem.head _ | apply List.Mem.tail)); done) | (apply NdOk_need; (repeat' (first | exact trivial | apply And.intro | exact List.Mem.head _ | apply List.Mem.tail)); done)), ?_⟩) | (apply OpTo_val; exact rfl; exact has42; exact validB_c _ ⟨s.ac, s.nc, s.cc, A, l.length, c⟩ ⟨lg, clubs, d, l⟩ hr hn lg d _ x; refine ⟨Le.refl _, by (first | exact NdOk_no rfl | (apply NdOk_all; (repeat' (first | exact trivial | apply And.intro | exact List.Mem.head _ | apply List.Mem.tail)); done) | (apply NdOk_need; (repeat' (first | exact trivial | apply And.intro | exact List.Mem.head _ | apply List.Mem.tail)); done)), ?_⟩) | (apply OpTo_valP; exact rfl; exact has34; exact status_c _ lg d ⟨s.ac, s.nc, s.cc, A, l.length, c⟩ _ mb m x.player; exact (by (repeat (first | exact Takes_nil | (apply Takes_cons; exact (by (repeat (first | exact Take.here | apply Take.there)); done)))); done); refine ⟨Le.refl _, by (first | exact NdOk_no rfl | (apply NdOk_all; (repeat' (first | exact trivial | apply And.intro | exact List.Mem.head _ | apply List.Mem.tail)); done) | (apply NdOk_need; (repeat' (first | exact trivial | apply And.intro | exact List.Mem.head _ | apply List.Mem.tail)); done)), ?_⟩) | (apply OpTo_val; exact rfl; exact has43; exact ht2 (by assumption); refine ⟨Le.refl _, by (first | exact NdOk_no rfl | (apply NdOk_all; (repeat' (first | exact trivial | apply And.intro | exact List.Mem.head _ | apply List.Mem.tail)); done) | (apply NdOk_need; (repeat' (first | exact trivial | apply And.intro | exact List.Mem.head _ | apply List.Mem.tail)); done)), ?_⟩) | (apply OpTo_mapUpdate (ek := fun i : Int => .int .i64 i) (ev := staV) K3; exact rfl; exact rfl; exact rfl; exact rfl; exact rfl; exact rfl; exact (by (repeat (first | exact Repl.here | apply Repl.there)); done); refine ⟨Le.refl _, by (first | exact NdOk_no rfl | (apply NdOk_all; (repeat' (first | exact trivial | apply And.intro | exact List.Mem.head _ | apply List.Mem.tail)); done) | (apply NdOk_need; (repeat' (first | exact trivial | apply And.intro | exact List.Mem.head _ | apply List.Mem.tail)); done)), ?_⟩) | (apply OpTo_buildSliceR; exact rfl; exact rfl; exact rfl; exact List.cons_ne_nil _ _; exact rfl; exact rfl; exact rfl; exact rfl; intro b1 h1 hle1 hcs1; refine ⟨hle1, by (first | exact NdOk_no rfl | (apply NdOk_all; (repeat' (first | exact trivial | apply And.intro | exact List.Mem.head _ | apply List.Mem.tail)); done) | (apply NdOk_need; (repeat' (first | exact trivial | apply And.intro | exact List.Mem.head _ | apply List.Mem.tail)); done)), ?_⟩) | (apply OpTo_appendQ; exact rfl; exact rfl; exact rfl; exact rfl; exact rfl; exact rfl; exact rfl; exact hcs1; intro v1; exact (by (repeat (first | exact Repl.here | apply Repl.there)); done); exact rfl; exact allOne_ok rfl; omega; exact rfl; intro A1 c1; refine ⟨Le.refl _, by (first | exact NdOk_no rfl | (apply NdOk_all; (repeat' (first | exact trivial | apply And.intro | exact List.Mem.head _ | apply List.Mem.tail)); done) | (apply NdOk_need; (repeat' (first | exact trivial | apply And.intro | exact List.Mem.head _ | apply List.Mem.tail)); done)), ?_⟩))) | (apply GP_two; kernel_rfl; exact rfl; exact rfl) | (apply RealP_intro; exact rfl; exact rfl; exact rfl; exact rfl; (first | (apply OpTo_alloc; exact rfl; intro b; refine ⟨Le.refl _, by (first | exact NdOk_no rfl | (apply NdOk_all; (repeat' (first | exact trivial | apply And.intro | exact List.Mem.head _ | apply List.Mem.tail)); done) | (apply NdOk_need; (repeat' (first | exact trivial | apply And.intro | exact List.Mem.head _ | apply List.Mem.tail)); done)), ?_⟩) | (apply OpTo_valP; exact rfl; exact has34; exact status_c _ lg d ⟨s.ac, s.nc, s.cc, A, l.length, c⟩ _ mb m x.player; exact (by (repeat (first | exact Takes_nil | (apply Takes_cons; exact (by (repeat (first | exact Take.here | apply Take.there)); done)))); done); refine ⟨Le.refl _, by (first | exact NdOk_no rfl | (apply NdOk_all; (repeat' (first | exact trivial | apply And.intro | exact List.Mem.head _ | apply List.Mem.tail)); done) | (apply NdOk_need; (repeat' (first | exact trivial | apply And.intro | exact List.Mem.head _ | apply List.Mem.tail)); done)), ?_⟩) | (apply OpTo_val; exact rfl; exact has43; exact ht2 (by assumption); refine ⟨Le.refl _, by (first | exact NdOk_no rfl | (apply NdOk_all; (repeat' (first | exact trivial | apply And.intro | exact List.Mem.head _ | apply List.Mem.tail)); done) | (apply NdOk_need; (repeat' (first | exact trivial | apply And.intro | exact List.Mem.head _ | apply List.Mem.tail)); done)), ?_⟩))) | (apply GP_done; kernel_rfl; exact rfl) | (apply GO_cond; exact rfl; all_goals intro hc; all_goals try simp only [ltI_t, ltI_f, leI_t, leI_f, eqI_t, eqI_f, Bool.not_eq_true', Bool.not_eq_false', decide_eq_true_eq, decide_eq_false_iff_not, reduceCtorEq] at hc; all_goals try (exfalso; omega)))
  all_goals
    first
    | (have hcl : 65536 ≤ l.length := by omega
       have e : addS clubs d l.length ((lookA x.player m).getD st0) x = 2 := by rw [addS, if_pos (by omega)]
       refine GO_retS1 (Fs := []) rfl rfl rfl (by (repeat (first | exact List.Sublist.refl _ | exact List.nil_sublist _ | apply List.Sublist.cons_cons | apply List.Sublist.cons)); done) ?_
       rw [e]; exact ⟨rfl, .inr ⟨by decide, rfl⟩⟩)
    | (have hcl : l.length < 65536 := by omega
       have hcv : ¬ ValidX clubs d x := by assumption
       have e : addS clubs d l.length ((lookA x.player m).getD st0) x = 360 := by rw [addS, if_neg (by omega), if_pos hcv]
       refine GO_retS1 (Fs := []) rfl rfl rfl (by (repeat (first | exact List.Sublist.refl _ | exact List.nil_sublist _ | apply List.Sublist.cons_cons | apply List.Sublist.cons)); done) ?_
       rw [e]; exact ⟨rfl, .inr ⟨by decide, rfl⟩⟩)
    | (have hcl : l.length < 65536 := by omega
       have hcv : ValidX clubs d x := by assumption
       have hcf : fits ((lookA x.player m).getD st0) x ≠ 0 := by omega
       have e : addS clubs d l.length ((lookA x.player m).getD st0) x = fits ((lookA x.player m).getD st0) x := by rw [addS, if_neg (by omega), if_neg (by simpa using hcv)]
       refine GO_retS1 (Fs := []) rfl rfl rfl (by (repeat (first | exact List.Sublist.refl _ | exact List.nil_sublist _ | apply List.Sublist.cons_cons | apply List.Sublist.cons)); done) ?_
       rw [e]; exact ⟨rfl, .inr ⟨hcf, rfl⟩⟩)
    | (have hcl : l.length < 65536 := by omega
       have hcv : ValidX clubs d x := by assumption
       have hcf : fits ((lookA x.player m).getD st0) x = 0 := by omega
       have e : addS clubs d l.length ((lookA x.player m).getD st0) x = fits ((lookA x.player m).getD st0) x := by rw [addS, if_neg (by omega), if_neg (by simpa using hcv)]
       refine GO_retS1 rfl rfl rfl (.cons _ (.cons _ (List.Sublist.refl _))) ?_
       rw [e, hcf]; refine ⟨rfl, .inl ⟨rfl, A1, c1, ?_⟩⟩
       rw [← ht1 hcv hcf]
       simp [List.flatMap_append, encE]
       exact ⟨rfl, rfl⟩)

end Go.Hw


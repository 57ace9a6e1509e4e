import Derived.Test.YtajmniiiahhfaaaGreatDoorEB
import Derived.Test.YtajmniiiahhfaaaGreatDoorHD
import Derived.Test.YtajmniiiahhfaaaGreatDoorDB
import Derived.Test.YtajmniiiahhfaaaGreatDoorGC
/-
  ledger: the facts that were known on a day; Collect; Known, walked.
-/
set_option linter.unusedVariables false
set_option linter.unusedSimpArgs false
set_option maxRecDepth 100000
set_option maxHeartbeats 8000000
namespace Go.Hw
open Go
attribute [local irreducible] GO GOl GDp Val Fn Res CellsAt ValE Blk OwnS MapA OwnPf Has Yl
open Go.Proofs (Tryz.prog)
open Classical in
noncomputable def recL (l : List (Fsh × Fct)) (k : Int) : List (Fsh × Fct) := l.filter fun p => decide (p.2.known ≤ k)
theorem recL_snoc (l : List (Fsh × Fct)) (k : Int) (p : Fsh × Fct) : recL (l ++ [p]) k = recL l k ++ recL [p] k := by unfold recL; rw [List.filter_append]
theorem recL_sub (l : List (Fsh × Fct)) (k : Int) : ∀ p ∈ recL l k, p ∈ l ∧ p.2.known ≤ k := fun p hp => by
  unfold recL at hp
  rw [List.mem_filter, decide_eq_true_eq] at hp
  exact hp
theorem recL_len (l : List (Fsh × Fct)) (k : Int) : (recL l k).length ≤ l.length := by unfold recL; exact List.length_filter_le _ _
theorem recorded_c (h : Ro) (A : Option Addr) (n c : Nat) (k : Int) : Res Tryz.prog 79 #[ledV A n c, .int .i64 k] h (fun u h' => ∃ b1 b2, u = .func (.func 105) #[] #[.pointer (some ⟨b1, 0, none⟩), .pointer (some ⟨b2, 0, none⟩)] ∧ CellsAt h' ⟨b1, 0, none⟩ [.slice A n c] ∧ CellsAt h' ⟨b2, 0, none⟩ [.int .i64 k]) := by
  refine Res_intro (args := [_, _]) ts_ok Go.Proofs.Tryz.func79 rfl rfl fun w0 X0 => ?_
  repeat' (first | apply GO_seq | apply GO_region | apply GOl_nil | (apply GOl_pv; (iterate 3 exact rfl)) | (apply GOl_to; (iterate 3 exact rfl); (first | (apply OpTo_box; exact rfl; intro b; skip))))
  rename_i b1
  generalize b = b2
  refine GO_relB (b := b1) (e := 47) (cs := [.slice A n c]) (by (repeat (first|exact Take.here|apply Take.there));done) ?_
  intro h1 hle1 hc1
  refine GO_relB (b := b2) (e := 3) (cs := [.int .i64 k]) (by (repeat (first|exact Take.here|apply Take.there));done) ?_
  intro h2 hle2 hc2
  (first | (apply GO_retR1; (iterate 3 exact rfl)))
  exact ⟨b1, b2, rfl, hc1.le hle2, hc2⟩
open Classical in
theorem recSeq (h : Ro) (A : Option Addr) (n c : Nat) (l : List (Fsh × Fct)) (hx : FactsAt h A n l) (day : Int) (b1 b2 : Nat) (hb1 : CellsAt h ⟨b1, 0, none⟩ [.slice A n c]) (hb2 : CellsAt h ⟨b2, 0, none⟩ [.int .i64 day]) : SeqR Tryz.prog 105 [.pointer (some ⟨b1, 0, none⟩), .pointer (some ⟨b2, 0, none⟩)] FR (recL l day) h := by
  intro lid I Ix mI mIx hround Es h1 hle h0
  refine Fn_intro (args := [_, _, _]) ts_ok Go.Proofs.Tryz.func105 rfl rfl fun w0 X0 => ?_
  have hlen := hx.row.len
  have hn := hx.small
  have hd1 := hb1.le hle
  repeat' (first | apply GO_seq | apply GO_block | apply GO_region | apply GOl_nil | (apply GOl_pv; (iterate 3 exact rfl)) | (apply GOl_ov; exact rfl; exact rfl; (first | (apply OV_load; exact rfl; exact Lv_ro rfl hd1 rfl)); exact (by repeat' (first|exact trivial|apply And.intro|exact List.Mem.head _|apply List.Mem.tail))))
  refine GO_while (X := Nat × List Asn × Ro) (fun x => x.1 ≤ n ∧ Le h x.2.2 ∧ I (recL (l.take x.1) day) x.2.1 x.2.2) (fun x => n - x.1) (fun x => [(9, .int .i64 x.1), (8, .int .i64 n), (7, .slice A n c), (0, .func (.yield lid) #[] #[]), (2, .pointer (some ⟨b2, 0, none⟩))])
    (fun x => x.2.1) (fun x => x.2.2) (0, Es, h1) ⟨by omega, hle, h0⟩ (by (repeat (first|exact trivial|refine ⟨rfl, ?_⟩));done) rfl rfl ?_
  rintro ⟨k, Es1, hk⟩ ⟨hkn, hlk, hI⟩ ih
  dsimp only at hkn hlk hI ih ⊢
  by_cases hkn2 : k < n
  · have a1 := hx.row.addrD hkn2
    have c1 := (hx.row.cellsD p0 hkn2).le hlk
    have et := take7 p0 (xs := l) rfl (show k < l.length by omega)
    have hsplit := take_split p0 (l := l) rfl (show k < l.length by omega)
    generalize l.getD k p0 = p at *
    have hd2 := hb2.le hlk
    have hyl : p.2.known ≤ day → Yl Tryz.prog lid [factV p.1 p.2] Es1 hk fun v Es' h' => (v = .bool true ∧ I (recL (l.take (k + 1)) day) Es' h') ∨ (v = .bool false ∧ Ix (recL (l.take (k + 1)) day) Es' h') := fun hv => by
      have e1 : recL [p] day = [p] := by unfold recL; simp [hv]
      have e2 : recL (l.take (k + 1)) day = recL (l.take k) day ++ [p] := by rw [et, recL_snoc, e1]
      have e3 : recL l day = recL (l.take k) day ++ p :: recL (l.drop (k + 1)) day := by
        conv => lhs; rw [hsplit]
        unfold recL at e1 ⊢
        rw [List.filter_append, show p :: l.drop (k + 1) = [p] ++ l.drop (k + 1) from rfl, List.filter_append, e1]; rfl
      rw [e2]
      exact hround _ _ _ _ _ _ e3 hlk rfl hI
    by_cases hv : p.2.known ≤ day
    · repeat' (first | apply GO_seq | apply GO_skip | apply GO_inBlock | apply GO_block | apply GO_region | apply GOl_nil | (apply GOl_add; (iterate 3 exact rfl); omega; exact rfl; exact rfl) | (apply GOl_pv; (iterate 3 exact rfl)) | (apply GOl_load; exact rfl; exact Ld_blk rfl (by (repeat (first|exact List.Mem.head _|apply List.Mem.tail));done) rfl; exact rfl; exact rfl) | (apply GOl_ov; exact rfl; exact rfl; (first | (apply OV_idxS (j := k); (iterate 5 exact rfl); exact a1; (with_reducible exact rfl); omega) | (apply OV_load; exact rfl; exact Lv_ro rfl c1 rfl) | (apply OV_load; exact rfl; exact Lv_ro rfl hd2 rfl)); exact (by repeat' (first|exact trivial|apply And.intro|exact List.Mem.head _|apply List.Mem.tail))) | (apply GOl_to; (iterate 3 exact rfl); (first | (apply OpTo_store; (iterate 3 exact rfl); exact (by (repeat (first|exact Repl.here|apply Repl.there));done); (iterate 3 exact rfl); skip) | (apply OpTo_alloc; exact rfl; intro b; skip) | (refine OpTo_perm (List.perm_append_comm (l₁ := [_])) ?_; apply OpTo_yield (Es0 := Es1) (Fs := [_]); (iterate 3 exact rfl); exact hyl hv; rintro v E2 h2 hle2 (⟨rfl, hP⟩ | ⟨rfl, hP⟩); all_goals skip))) | (apply GO_cond; exact rfl; all_goals intro hc; all_goals try simp only [hcS, reduceCtorEq] at hc; all_goals try (exfalso; omega)) | (apply GOl_split; exact rfl; exact rfl; all_goals intro hc; all_goals try simp only [hcS, reduceCtorEq] at hc; all_goals try (exfalso; omega)))
      all_goals first
        | (exfalso; omega)
        | (have h3 := ih (k + 1, E2, h2) ⟨by show k + 1 ≤ n; omega, hlk.trans hle2, hP⟩ (by show n - (k + 1) < n - k; omega)
           refine GO_perm (List.perm_append_comm (l₁ := E2) (l₂ := [_])) (GO_drop .here ?_)
           exact GO_keep (by (repeat (first|exact trivial|refine ⟨rfl, ?_⟩));done) h3)
        | (refine GO_retS (rs := []) (vs := []) (Fs := E2) rfl rfl trivial (List.sublist_append_left _ _) (.inr ⟨recL (l.take (k + 1)) day, recL (l.drop (k + 1)) day, ?_, hP⟩)
           unfold recL; rw [← List.filter_append, List.take_append_drop])
       
    · have hno : recL (l.take (k + 1)) day = recL (l.take k) day := by
        rw [et, recL_snoc]; unfold recL; simp [hv]
      repeat' (first | apply GO_seq | apply GO_skip | apply GO_inBlock | apply GO_block | apply GO_region | apply GOl_nil | (apply GOl_unwanted; exact rfl; exact rfl) | (apply GOl_add; (iterate 3 exact rfl); omega; exact rfl; exact rfl) | (apply GOl_pv; (iterate 3 exact rfl)) | (apply GOl_load; exact rfl; exact Ld_blk rfl (by (repeat (first|exact List.Mem.head _|apply List.Mem.tail));done) rfl; exact rfl; exact rfl) | (apply GOl_ov; exact rfl; exact rfl; (first | (apply OV_idxS (j := k); (iterate 5 exact rfl); exact a1; (with_reducible exact rfl); omega) | (apply OV_load; exact rfl; exact Lv_ro rfl c1 rfl) | (apply OV_load; exact rfl; exact Lv_ro rfl hd2 rfl)); exact (by repeat' (first|exact trivial|apply And.intro|exact List.Mem.head _|apply List.Mem.tail))) | (apply GOl_to; (iterate 3 exact rfl); (first | (apply OpTo_store; (iterate 3 exact rfl); exact (by (repeat (first|exact Repl.here|apply Repl.there));done); (iterate 3 exact rfl); skip) | (apply OpTo_alloc; exact rfl; intro b; skip))) | (apply GO_cond; exact rfl; all_goals intro hc; all_goals try simp only [hcS, reduceCtorEq] at hc; all_goals try (exfalso; omega)) | (apply GOl_split; exact rfl; exact rfl; all_goals intro hc; all_goals try simp only [hcS, reduceCtorEq] at hc; all_goals try (exfalso; omega)))
      all_goals
        have h3 := ih (k + 1, Es1, hk) ⟨by show k + 1 ≤ n; omega, hlk, by show I (recL (l.take (k + 1)) day) _ _; rw [hno]; exact hI⟩ (by show n - (k + 1) < n - k; omega)
        refine GO_drop .here ?_
        exact GO_keep (by (repeat (first|exact trivial|refine ⟨rfl, ?_⟩));done) h3
  · rw [List.take_of_length_le (by omega)] at hI
    repeat' (first | apply GO_seq | apply GO_region | apply GOl_nil | (apply GO_exit; exact rfl) | (apply GOl_pv; (iterate 3 exact rfl)) | (apply GO_cond; exact rfl; all_goals intro hc; all_goals try simp only [hcS, reduceCtorEq] at hc; all_goals try (exfalso; omega)))
    exact GO_end (rs := []) (vs := []) rfl rfl trivial (.inl hI)
end Go.Hw
/-
  ledger: Collect; Known, walked.
-/
set_option linter.unusedVariables false
set_option linter.unusedSimpArgs false
set_option maxRecDepth 100000
set_option maxHeartbeats 8000000
namespace Go.Hw
open Go
attribute [local irreducible] GO GOl GDp Val Fn Res CellsAt ValE Blk OwnS MapA OwnPf Has Yl
open Go.Proofs (Tryz.prog)
open Classical in
/-- What Known answers. -/
noncomputable def knownE (l : List Fct) (k : Int) : List Fct × Int := if ledE l ≠ 0 then ([], ledE l) else if ¬ (0 ≤ k ∧ k ≤ 1048576) then ([], 1) else (knownL l k, 0)
end Go.Hw
/-
  ledger: Missing, walked.
-/
set_option linter.unusedVariables false
set_option linter.unusedSimpArgs false
set_option maxRecDepth 100000
set_option maxHeartbeats 8000000
namespace Go.Hw
open Go
attribute [local irreducible] GO GOl GDp Val Fn Res CellsAt ValE Blk OwnS MapA OwnPf Has Yl idF
open Go.Proofs (Tryz.prog)
def digV (d : List UInt8) : Value := .agg (voidC d).toArray
theorem digV_eq {d : List UInt8} (h : d.length = 32) : dgV d = digV d := by
  unfold dgV digV
  rw [← map_u8, ← voidC_eq d h]
theorem id2_c (h : Ro) (hG : PowG h) (s : Fsh) (f : Fct) (hf : FAt h s f) (hs : FSm f) (hok : FctOk f) : Res Tryz.prog 38 #[factV s f] h fun u _ => u = .tuple #[digV (idF f), .int .i64 0] :=
  (id_c h hG s f hf hs).mono fun u h' _ e => by rw [e, if_pos hok, digV_eq (idF_len f)]
open Classical in
/-- What Missing answers. -/
noncomputable def missE (a b : List Fct) : List (List UInt8) × Int := if ledE a ≠ 0 then ([], ledE a) else if ledE b ≠ 0 then ([], ledE b) else ((missL a b).map idF, 0)
end Go.Hw

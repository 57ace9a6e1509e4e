import Derived.Test.YtbgjcjhodlmgjacDoorCY0
import Derived.Test.YtbgjcjhodlmgjacDoorCE2
set_option linter.unusedVariables false
set_option maxRecDepth 100000
namespace Go.Proofs.YtbgjcjhodlmgjacDoor
open Go Go.ChangeShapes Go.WideShapes Go.RowKit Go.ChangeAt Go.Hw

theorem lifted3 (os : Os) (started : os.Started) (H : Type) (enc : TypeId × Value → H) :
    ReturnsInHanded {} Tryd.checked os 3 .any (fun w args => (Rows.squadsEnteredSpec.pre enc Tryd.prog Tryd.f3 [] false w args ∧ laidMetH Tryd.prog laidL w) ∧ sizedMet enc Tryd.prog Tryd.f3 (OpenSpec.ofChange Rows.squadsEnteredSpec) false w args)
      (Rows.squadsEnteredSpec.post enc Tryd.prog Tryd.f3 false true false false) := by
  refine returnsInHanded_of_change_and (C := Tryd.checked) (X := fun w _ => laidMetH Tryd.prog laidL w) (fun _ _ _ hh h => h.of_heap hh) own started (by kernel_rfl) Tryd.func3
    (ChangeSpec.witness_shaped (enc := enc) (C := Tryd.checked) (os := os) (X := fun w _ => laidMetH Tryd.prog laidL w) false (World.doorLaid Tryd.prog 400 os) #[.agg #[.int .i64 0, .int .i64 0, .int .i64 0, .int .i64 0, .int .i64 0, .int .i64 0, .slice none 0 0], .agg #[.int .i64 0, .slice none 0 0, .int .i64 0, .slice none 0 0], .slice none 0 0, .slice none 0 0, .int .i64 0, .int .i64 0, .int .i64 0] 8 rfl (World.shaped_of_RefB (by kernel_rfl) (by kernel_rfl)) (by kernel_rfl) (by kernel_rfl) (by kernel_rfl) (door_met os _)) ?_
  intro W base args ds gs before hval0 hW _ _ hL _
  have hval : ∀ (j : Nat) t v, Tryd.f3.params[j]? = some t → args[j]? = some v → Value.okWide Tryd.prog W .any base t v := hval0
  have hG := lenG_of hL
  have hW' := hW
  obtain ⟨p, q, hA0, hV, rfl, hfz, hnd⟩ := hW
  have hA : DataW.TrodAll enc Tryd.prog W 0 (fun _ => true) true Tryd.f3.params.toList args.toList ds p := hA0
  rw [Tryd.params3] at hA hval
  obtain ⟨v0, vs0, d0, ds0, p0, q0, hargs, rfl, rfl, h0, r0⟩ := trodAll_cons hA
  obtain ⟨v1, vs1, d1, ds1, p1, q1, rfl, rfl, rfl, h1, r1⟩ := trodAll_cons r0
  obtain ⟨v2, vs2, d2, ds2, p2, q2, rfl, rfl, rfl, h2, r2⟩ := trodAll_cons r1
  obtain ⟨v3, vs3, d3, ds3, p3, q3, rfl, rfl, rfl, h3, r3⟩ := trodAll_cons r2
  obtain ⟨v4, vs4, d4, ds4, p4, q4, rfl, rfl, rfl, h4, r4⟩ := trodAll_cons r3
  obtain ⟨v5, vs5, d5, ds5, p5, q5, rfl, rfl, rfl, h5, r5⟩ := trodAll_cons r4
  obtain ⟨v6, vs6, d6, ds6, p6, q6, rfl, rfl, rfl, h6, r6⟩ := trodAll_cons r5
  obtain ⟨rfl, rfl, rfl⟩ := trodAll_nil r6
  obtain rfl : args = #[v0, v1, v2, v3, v4, v5, v6] := by cases args; simp_all
  obtain ⟨rfl, rfl⟩ := trodVars_none hV
  obtain ⟨u0, A0, c0, rfl, hx0⟩ := argQ (hval 0 24 v0 rfl rfl) h0
  obtain ⟨g1, s1, rfl, hc1, he1⟩ := argR (hval 1 28 v1 rfl rfl) h1
  obtain ⟨A2, m2, c2, xs2, rfl, hc2, _, hx2⟩ := argL (hval 2 29 v2 rfl rfl) h2
  obtain ⟨A3, m3, c3, xs3, rfl, hc3, _, hx3⟩ := argB (hval 3 22 v3 rfl rfl) h3
  obtain ⟨n4, rfl⟩ := argI (hval 4 3 v4 rfl rfl)
  obtain ⟨n5, rfl⟩ := argI (hval 5 3 v5 rfl rfl)
  obtain ⟨n6, rfl⟩ := argI (hval 6 3 v6 rfl rfl)
  exact law_row laidOut (by kernel_rfl) (tb := 4) (by kernel_rfl) Tryd.underlying4 rfl rfl hW' (entered_w sortSaid compactSaid _ hG u0 A0 c0 hx0 s1 g1 hc1 he1 A2 m2 c2 xs2 hx2 A3 m3 c3 xs3 hx3 n4 n5 n6)

theorem entered_holds_row : Rows.SquadsEnteredSaid :=
  OpenClaim.holds_of_wide 3 Tryd.f3 rfl rfl rfl rfl rfl rfl rfl ⟨rfl, rfl, rfl, rfl, rfl⟩ rfl rfl rfl rfl rfl (by kernel_rfl) Tryd.func3 (by kernel_rfl)
    (of_decide_eq_true (by kernel_rfl)) (by unfold Func.isWrapper; first | (rw [if_pos (by decide +kernel)]; kernel_rfl) | (rw [if_neg (by decide +kernel)]; exact ⟨rfl, rfl⟩))
    (fun os started H enc _ => lifted3 os started H enc)

theorem entered_holds : Rows.SquadsEnteredCardSaid :=
  Claim7.holds_tied_plain_at .later [] [.data] true (true, "120b1e7062915a0a6bf56e1da2accafe83bfdd86693851fc694c1247811a6b1d") false
    entered_holds_row (fun _ h => by cases h) (by kernel_rfl) (fun _ h => by cases h) squadsEntered_row_tie rfl ⟨rfl, rfl⟩ (by kernel_rfl) rfl
    (fun f fn hf hfn => by
      obtain rfl : f = 3 := Option.some.inj ((show Tryd.prog.funcNamed "assize/assizelaw37.SquadsEntered" = some 3 by kernel_rfl).symm.trans hf) |>.symm
      obtain rfl : fn = Tryd.f3 := (Option.some.inj (Tryd.func3.symm.trans hfn)).symm
      exact ⟨by kernel_rfl, fun j t ht => by
        rw [Tryd.params3] at ht
        have hm : t ∈ [24, 28, 29, 22, 3, 3, 3] := by simpa using Array.mem_of_getElem? ht
        have hall : ([24, 28, 29, 22, 3, 3, 3].all fun u => !Tryd.prog.wantsStandIn u) = true := by kernel_rfl
        exact (show Tryd.prog.wantsStandIn t = false by simpa using List.all_eq_true.1 hall t hm)⟩)
    (by kernel_rfl)
end Go.Proofs.YtbgjcjhodlmgjacDoor

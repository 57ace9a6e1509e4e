import Derived.Test.YtbgjcjhodlmgjacDoorNB
import Derived.Test.YtbgjcjhodlmgjacDoorCSh
import Derived.Test.YtbgjcjhodlmgjacDoorHwV
import Derived.Test.YtbgjcjhodlmgjacDoorRows
import Derived.Test.YtbgjcjhodlmgjacDoorTie
import Derived.Test.YtbgjcjhodlmgjacDoorCards
import Derived.ProofKit
import Derived.LaidMore
import Derived.OpenShut
import Derived.Stop.Joined
import Derived.SevenTiedAt
set_option linter.unusedVariables false
set_option maxRecDepth 100000
namespace Go.Hw
open Go Go.ChangeShapes Go.WideShapes Go.RowKit
open Go.Proofs (Tryd.prog)
open Go.Proofs.YtbgjcjhodlmgjacDoor (Rows.none)

theorem sortSaid : SortSaid := fun e v xs n h hn hx => sortFn Go.Proofs.Tryd.slices_Sort_int Go.Proofs.Tryd.slices_Sort_int_none e v xs n h hn hx
theorem compactSaid : CompactSaid := fun e v xs n h hn hx => compactFn Go.Proofs.Tryd.slices_Compact_int Go.Proofs.Tryd.slices_Compact_int_empty compact_len e v xs n h hn hx

theorem cells3 : Tryd.prog.cellsOf 3 = 1 := by kernel_rfl
theorem cells4 : Tryd.prog.cellsOf 4 = 1 := by kernel_rfl
theorem cellsV : Tryd.prog.cellsOf 36 = 2 := by kernel_rfl
theorem cellsP : Tryd.prog.cellsOf 43 = 4 := by kernel_rfl
theorem cellsVs : Tryd.prog.cellsOf 22 = 1 := by kernel_rfl
theorem cellsQ : Tryd.prog.cellsOf 24 = 7 := by kernel_rfl
theorem rdInt {w : World} {us : List Value} (h : Rd Tryd.prog w 3 us) : ∃ n, us = encI n := by
  obtain ⟨n, e, _⟩ := Rd_int Go.Proofs.Tryd.underlying3 h
  exact ⟨n, e⟩
theorem rdIvl {w : World} {us : List Value} (h : Rd Tryd.prog w 36 us) : ∃ x, us = encV x := by
  obtain ⟨hl, hf⟩ := Rd_struct Go.Proofs.Tryd.underlying36 h
  rw [cellsV] at hl
  obtain ⟨n0, e0⟩ := Rd_intAt Go.Proofs.Tryd.underlying3 cells3 (hf 0 _ rfl)
  obtain ⟨n1, e1⟩ := Rd_intAt Go.Proofs.Tryd.underlying3 cells3 (hf 1 _ rfl)
  refine ⟨⟨n0, n1⟩, ?_⟩
  match us, hl with
  | [a, b], _ => simp at e0 e1; simp [encV, *]
theorem rdPer {w : World} {us : List Value} (h : Rd Tryd.prog w 43 us) : ∃ x, us = encP x := by
  obtain ⟨hl, hf⟩ := Rd_struct Go.Proofs.Tryd.underlying43 h
  rw [cellsP] at hl
  obtain ⟨n0, e0⟩ := Rd_intAt Go.Proofs.Tryd.underlying3 cells3 (hf 0 _ rfl)
  obtain ⟨n1, e1⟩ := Rd_intAt Go.Proofs.Tryd.underlying3 cells3 (hf 1 _ rfl)
  obtain ⟨n2, e2⟩ := Rd_boolAt Go.Proofs.Tryd.underlying4 cells4 (hf 2 _ rfl)
  obtain ⟨n3, e3⟩ := Rd_intAt Go.Proofs.Tryd.underlying3 cells3 (hf 3 _ rfl)
  refine ⟨⟨n0, n1, n2, n3⟩, ?_⟩
  match us, hl with
  | [a, b, c, d], _ => simp at e0 e1 e2 e3; simp [encP, *]
theorem rdQuo {w : World} {us : List Value} (h : Rd Tryd.prog w 24 us) : ∃ (q : Quo) (A : Option Addr) (c : Nat), us = [.int .i64 q.size, .int .i64 q.grown, .int .i64 q.young, .int .i64 q.inn, .int .i64 q.out, .int .i64 q.cap, .slice A q.wins.length c] ∧ SlOf encV 2 (mem w) A q.wins.length q.wins := by
  obtain ⟨hl, hf⟩ := Rd_struct Go.Proofs.Tryd.underlying24 h
  rw [cellsQ] at hl
  obtain ⟨n0, e0⟩ := Rd_intAt Go.Proofs.Tryd.underlying3 cells3 (hf 0 _ rfl)
  obtain ⟨n1, e1⟩ := Rd_intAt Go.Proofs.Tryd.underlying3 cells3 (hf 1 _ rfl)
  obtain ⟨n2, e2⟩ := Rd_intAt Go.Proofs.Tryd.underlying3 cells3 (hf 2 _ rfl)
  obtain ⟨n3, e3⟩ := Rd_intAt Go.Proofs.Tryd.underlying3 cells3 (hf 3 _ rfl)
  obtain ⟨n4, e4⟩ := Rd_intAt Go.Proofs.Tryd.underlying3 cells3 (hf 4 _ rfl)
  obtain ⟨n5, e5⟩ := Rd_intAt Go.Proofs.Tryd.underlying3 cells3 (hf 5 _ rfl)
  obtain ⟨A, n, c, xs, e6, _, _, h6⟩ := Rd_sliceAt (enc := encV) Go.Proofs.Tryd.underlying22 cellsVs cellsV (fun _ => rdIvl) (hf 6 _ rfl)
  have hn := h6.len
  subst hn
  refine ⟨⟨n0, n1, n2, n3, n4, n5, xs⟩, A, c, ?_, h6⟩
  match us, hl with
  | [a, b, c, d, e, f, g], _ => simp at e0 e1 e2 e3 e4 e5 e6; simp [*]

section
variable {H : Type} {enc : TypeId × Value → H} {W : World} {base : Nat} {v : Value} {d : DataW H} {p : List MemPlace}
theorem argI (hv : Value.okWide Tryd.prog W .any base 3 v) : ∃ n, v = .int .i64 n := okWide_int Go.Proofs.Tryd.underlying3 hv
theorem argP (hv : Value.okWide Tryd.prog W .any base 43 v) (h : DataW.Trod enc Tryd.prog W 0 (fun _ => true) true 43 v d p) : ∃ x, v = perV x := by
  obtain ⟨cs, rfl, _⟩ := okWide_struct Go.Proofs.Tryd.underlying43 hv
  obtain ⟨x, e⟩ := rdPer (Rd_of h)
  refine ⟨x, ?_⟩
  simp [Value.cells] at e
  have : cs = cs.toList.toArray := by simp
  rw [this, e]; rfl
theorem argQ (hv : Value.okWide Tryd.prog W .any base 24 v) (h : DataW.Trod enc Tryd.prog W 0 (fun _ => true) true 24 v d p) : ∃ (q : Quo) (A : Option Addr) (c : Nat), v = quoV q A c ∧ SlOf encV 2 (mem W) A q.wins.length q.wins := by
  obtain ⟨cs, rfl, _⟩ := okWide_struct Go.Proofs.Tryd.underlying24 hv
  obtain ⟨q, A, c, e, h1⟩ := rdQuo (Rd_of h)
  refine ⟨q, A, c, ?_, h1⟩
  simp [Value.cells] at e
  have : cs = cs.toList.toArray := by simp
  rw [this, e]; rfl

theorem argL (hv : Value.okWide Tryd.prog W .any base 29 v) (h : DataW.Trod enc Tryd.prog W 0 (fun _ => true) true 29 v d p) : ∃ A n c xs, v = .slice A n c ∧ n ≤ c ∧ c ≤ maxLen ∧ SlOf encP 4 (mem W) A n xs := by
  obtain ⟨A, n, c, rfl⟩ := okWide_slice Go.Proofs.Tryd.underlying29 hv
  obtain ⟨A', n', c', xs, e, h1, h2, h3⟩ := Rd_slice (enc := encP) Go.Proofs.Tryd.underlying29 cellsP (fun _ => rdPer) (Rd_of h)
  simp [Value.cells] at e
  obtain ⟨rfl, rfl, rfl⟩ := e
  exact ⟨_, _, _, xs, rfl, h1, h2, h3⟩

theorem argB (hv : Value.okWide Tryd.prog W .any base 22 v) (h : DataW.Trod enc Tryd.prog W 0 (fun _ => true) true 22 v d p) : ∃ A n c xs, v = .slice A n c ∧ n ≤ c ∧ c ≤ maxLen ∧ SlOf encV 2 (mem W) A n xs := by
  obtain ⟨A, n, c, rfl⟩ := okWide_slice Go.Proofs.Tryd.underlying22 hv
  obtain ⟨A', n', c', xs, e, h1, h2, h3⟩ := Rd_slice (enc := encV) Go.Proofs.Tryd.underlying22 cellsV (fun _ => rdIvl) (Rd_of h)
  simp [Value.cells] at e
  obtain ⟨rfl, rfl, rfl⟩ := e
  exact ⟨_, _, _, xs, rfl, h1, h2, h3⟩

theorem argW (hv : Value.okWide Tryd.prog W .any base 25 v) (h : DataW.Trod enc Tryd.prog W 0 (fun _ => true) true 25 v d p) : ∃ A n c xs, v = .slice A n c ∧ n ≤ c ∧ c ≤ maxLen ∧ SlOf encI 1 (mem W) A n xs := by
  obtain ⟨A, n, c, rfl⟩ := okWide_slice Go.Proofs.Tryd.underlying25 hv
  obtain ⟨A', n', c', xs, e, h1, h2, h3⟩ := Rd_slice (enc := encI) Go.Proofs.Tryd.underlying25 cells3 (fun _ => rdInt) (Rd_of h)
  simp [Value.cells] at e
  obtain ⟨rfl, rfl, rfl⟩ := e
  exact ⟨_, _, _, xs, rfl, h1, h2, h3⟩

theorem argR (hv : Value.okWide Tryd.prog W .any base 28 v) (h : DataW.Trod enc Tryd.prog W 0 (fun _ => true) true 28 v d p) : ∃ (r : Reg) (s : Rsh), v = regV r.league r.day s ∧ SlOf encI 1 (mem W) s.ac s.nc r.clubs ∧ SlOf encE 7 (mem W) s.ae s.ne r.ents := by
  obtain ⟨cs, rfl, _⟩ := okWide_struct Go.Proofs.Tryd.underlying28 hv
  have h0 := Rd_of h
  have cR : Tryd.prog.cellsOf 28 = 4 := by kernel_rfl
  have cE : Tryd.prog.cellsOf 40 = 7 := by kernel_rfl
  have cI : Tryd.prog.cellsOf 25 = 1 := by kernel_rfl
  have cS : Tryd.prog.cellsOf 26 = 1 := by kernel_rfl
  have rdEnt : ∀ {us : List Value}, Rd Tryd.prog W 40 us → ∃ x, us = encE x := by
    intro us h
    obtain ⟨hl, hf⟩ := Rd_struct Go.Proofs.Tryd.underlying40 h
    rw [cE] at hl
    obtain ⟨n0, e0⟩ := Rd_intAt Go.Proofs.Tryd.underlying3 cells3 (hf 0 _ rfl)
    obtain ⟨n1, e1⟩ := Rd_intAt Go.Proofs.Tryd.underlying3 cells3 (hf 1 _ rfl)
    obtain ⟨n2, e2⟩ := Rd_intAt Go.Proofs.Tryd.underlying3 cells3 (hf 2 _ rfl)
    obtain ⟨n3, e3⟩ := Rd_intAt Go.Proofs.Tryd.underlying3 cells3 (hf 3 _ rfl)
    obtain ⟨n4, e4⟩ := Rd_intAt Go.Proofs.Tryd.underlying3 cells3 (hf 4 _ rfl)
    obtain ⟨n5, e5⟩ := Rd_intAt Go.Proofs.Tryd.underlying3 cells3 (hf 5 _ rfl)
    obtain ⟨n6, e6⟩ := Rd_intAt Go.Proofs.Tryd.underlying3 cells3 (hf 6 _ rfl)
    refine ⟨⟨n0, n1, n2, n3, n4, n5, n6⟩, ?_⟩
    match us, hl with
    | [a, b, c, d, e, f, g], _ => simp at e0 e1 e2 e3 e4 e5 e6; simp [encE, *]
  obtain ⟨hl, hf⟩ := Rd_struct Go.Proofs.Tryd.underlying28 h0
  rw [cR] at hl
  obtain ⟨n0, e0⟩ := Rd_intAt Go.Proofs.Tryd.underlying3 cells3 (hf 0 _ rfl)
  obtain ⟨A, n, c, xs, e1, _, _, h1⟩ := Rd_sliceAt (enc := encI) Go.Proofs.Tryd.underlying25 cI cells3 (fun _ => rdInt) (hf 1 _ rfl)
  obtain ⟨n2, e2⟩ := Rd_intAt Go.Proofs.Tryd.underlying3 cells3 (hf 2 _ rfl)
  obtain ⟨A', n', c', es, e3, _, _, h3⟩ := Rd_sliceAt (enc := encE) Go.Proofs.Tryd.underlying26 cS cE (fun _ => rdEnt) (hf 3 _ rfl)
  refine ⟨⟨n0, xs, n2, es⟩, ⟨A, n, c, A', n', c'⟩, ?_, h1, h3⟩
  have e4 : cs = cs.toList.toArray := by simp
  have e5 : cs.toList = [.int .i64 n0, .slice A n c, .int .i64 n2, .slice A' n' c'] := by
    have hv : (Value.agg cs).cells.toList = cs.toList := by simp [Value.cells]
    rw [hv] at hl e0 e1 e2 e3
    match hq : cs.toList, hl with
    | [a, b, c, d], _ => rw [hq] at e0 e1 e2 e3; simp at e0 e1 e2 e3; simp [*]
  rw [e4, e5]; rfl
end
theorem own : ownKnob Tryd.prog.godebug = none := by kernel_rfl
theorem laidOut : laidOutB Tryd.prog = true := by kernel_rfl

/-! ### The table of the months -/
theorem gLen : Tryd.prog.globalNamed "assize/calendar.lengths" = some 0 := by kernel_rfl
theorem tLen : (Tryd.prog.globals[0]?).map (·.type) = some 126 := by kernel_rfl
abbrev laidL : List (String × DataW Unit) := [("assize/calendar.lengths", Go.Proofs.YtbgjcjhodlmgjacDoor.Rows.laid_assize_calendar_lengths)]
theorem door_met (os : Os) (args : Array Value) : laidMetH Tryd.prog laidL ((World.doorLaid Tryd.prog 400 os).forCall (fun _ _ => 0) ⟨#[], args, []⟩).memory :=
  laidMetH_of_parts3 (fuel := 8) (laidMet_of_run' 8 (by kernel_rfl) (by kernel_rfl)) (by kernel_rfl) (by kernel_rfl)
theorem lenG_of {W : World} (h : laidMetH Tryd.prog laidL W) : LenG (mem W) := by
  rw [MakeChecks.laidMetH_plain _ _ _ (by kernel_rfl)] at h
  obtain ⟨ps, ⟨g0, t0, cs0, f0, p0, q0, hg0, ht0, hv0, hd0, _, _⟩, _, _⟩ := h
  obtain rfl := Option.some.inj (gLen.symm.trans hg0)
  obtain rfl := Option.some.inj (tLen.symm.trans ht0)
  obtain ⟨xs, m1, rfl, hx1, hlen, hn3, hel⟩ := DataW.trod_array Go.Proofs.Tryd.underlying126 hd0
  have c24 : Tryd.prog.cellsOf 126 = 12 := by kernel_rfl
  rw [c24] at hlen
  have e : cs0.toList = lenCells := by
    simp only [Prod.mk.injEq, Go.Proofs.YtbgjcjhodlmgjacDoor.Rows.laid_assize_calendar_lengths, DataW.agg.injEq] at hx1
    obtain ⟨hx1, _⟩ := hx1
    have key : ∀ (i : Nat) (k : Int), i < 12 → (xs.map (·.1))[i]? = some (.lit (.int .i64 k)) → cs0.toList[i]? = some (.int .i64 k) := by
      intro i k hi hk
      have h0 := hel i hi
      rw [cells3] at h0
      rw [List.getElem?_map] at hk
      cases hx : xs[i]? with
      | none => rw [hx] at hk; cases hk
      | some x =>
        rw [hx] at hk h0
        obtain ⟨k', e1, e2, _⟩ := DataW.trod_int Go.Proofs.Tryd.underlying3 h0
        rw [Nat.mul_one] at e1
        simp only [Option.map_some, Option.some.injEq] at hk
        rw [e2] at hk
        have hkk : k' = k := by simpa using hk
        subst hkk
        exact take_one e1
    rw [← hx1] at key
    have k0 := key 0 31 (by decide) rfl
    have k1 := key 1 28 (by decide) rfl
    have k2 := key 2 31 (by decide) rfl
    have k3 := key 3 30 (by decide) rfl
    have k4 := key 4 31 (by decide) rfl
    have k5 := key 5 30 (by decide) rfl
    have k6 := key 6 31 (by decide) rfl
    have k7 := key 7 31 (by decide) rfl
    have k8 := key 8 30 (by decide) rfl
    have k9 := key 9 31 (by decide) rfl
    have k10 := key 10 30 (by decide) rfl
    have k11 := key 11 31 (by decide) rfl
    match hq : cs0.toList, hlen with
    | [a, b, c, d, e, f, g, h, i, j, k, l], _ => rw [hq] at k0 k1 k2 k3 k4 k5 k6 k7 k8 k9 k10 k11; simp at k0 k1 k2 k3 k4 k5 k6 k7 k8 k9 k10 k11; simp [lenCells, *]
  intro j v hj
  have := World.var?_cell hg0 hv0 j
  rw [← e] at hj
  have e2 : (⟨0, 0, Option.none⟩ : Addr).add j = ⟨0, j, Option.none⟩ := by
    unfold Addr.add; split <;> simp_all
  show cellR (mem W) ((⟨0, 0, Option.none⟩ : Addr).add j) = some v
  rw [e2, ← cell?_mem, this, ← Array.getElem?_toList]; exact hj
end Go.Hw

import Derived.Test.YtajmniiiahhfaaaGreatDoorGC
import Derived.Test.YtajmniiiahhfaaaGreatDoorEB
import Derived.Test.YtajmniiiahhfaaaGreatDoorHwV
import Derived.Test.YtajmniiiahhfaaaGreatDoorRows
import Derived.Test.YtajmniiiahhfaaaGreatDoorTie
import Derived.Test.YtajmniiiahhfaaaGreatDoorCards
import Derived.ProofKit
import Derived.LaidMore
import Derived.OpenShut
import Derived.Stop.Joined
import Derived.SevenTiedAt
set_option linter.unusedSimpArgs false
/-
  The arguments of the laws on facts, opened; the laid table of powers of ten.
-/
set_option linter.unusedVariables false
set_option maxRecDepth 100000
namespace Go.Hw
open Go Go.ChangeShapes Go.WideShapes Go.RowKit
open Go.Proofs (Tryz.prog)
open Go.Proofs.YtajmniiiahhfaaaGreatDoor (Rows.none)

theorem cutAt {us p : List Value} {o k : Nat} (h : (us.drop o).take k = p) : us.drop o = p ++ us.drop (o + k) := by
  rw [← h, ← List.drop_drop, List.take_append_drop]
theorem str_back (s : ByteArray) : ∃ l, s = str l := ⟨s.data.toList, by unfold str; rfl⟩
theorem Rd_sliceP {P : Program} {w : World} {t : TypeId} {cs : List Value} {α : Type} {enc : α → List Value} {sz : Nat} {e : TypeId} {S : α → Prop} (ht : P.underlying t = some (.slice e)) (hz : P.cellsOf e = sz) (he : ∀ us, Rd P w e us → ∃ x, us = enc x ∧ S x) (h : Rd P w t cs) :
    ∃ A n c xs, cs = [.slice A n c] ∧ n ≤ c ∧ c ≤ maxLen ∧ SlOf enc sz (mem w) A n xs ∧ ∀ x ∈ xs, S x := by
  obtain ⟨A, n, c, xs, h1, h2, h3, h4⟩ := Rd_slice (enc := fun x : {x : α // S x} => enc x.1) ht hz (fun us hu => by obtain ⟨x, e, hs⟩ := he us hu; exact ⟨⟨x, hs⟩, e⟩) h
  refine ⟨A, n, c, xs.map (·.1), h1, h2, h3, ⟨by rw [List.length_map]; exact h4.len, fun hk => ?_⟩, fun x hx => ?_⟩
  · obtain ⟨a, ha, hc⟩ := h4.2 hk
    refine ⟨a, ha, fun j x hj => ?_⟩
    rw [List.getElem?_map] at hj
    cases hq : xs[j]? with
    | none => rw [hq] at hj; cases hj
    | some y => rw [hq] at hj; injection hj with hj; rw [← hj]; exact hc j y hq
  · obtain ⟨y, _, rfl⟩ := List.mem_map.1 hx
    exact y.2

theorem Rd_at {P : Program} {w : World} {us : List Value} {t : TypeId} {o k : Nat} (hk : P.cellsOf t = k) (h : Rd P w t ((us.drop o).take (P.cellsOf t))) : Rd P w t ((us.drop o).take k) := hk ▸ h
theorem kInt : Tryz.prog.cellsOf 3 = 1 := by kernel_rfl
theorem kBool : Tryz.prog.cellsOf 4 = 1 := by kernel_rfl
theorem kByte : Tryz.prog.cellsOf 5 = 1 := by kernel_rfl
theorem kStr : Tryz.prog.cellsOf 9 = 1 := by kernel_rfl
theorem kInts : Tryz.prog.cellsOf 25 = 1 := by kernel_rfl
theorem kCards : Tryz.prog.cellsOf 26 = 1 := by kernel_rfl
theorem kCard : Tryz.prog.cellsOf 103 = 2 := by kernel_rfl
theorem kGame : Tryz.prog.cellsOf 24 = 4 := by kernel_rfl
theorem kEnt : Tryz.prog.cellsOf 57 = 4 := by kernel_rfl
theorem kFix : Tryz.prog.cellsOf 59 = 5 := by kernel_rfl
theorem kSheet : Tryz.prog.cellsOf 28 = 13 := by kernel_rfl
theorem kIvl : Tryz.prog.cellsOf 61 = 2 := by kernel_rfl
theorem kRul : Tryz.prog.cellsOf 63 = 17 := by kernel_rfl
theorem kApp : Tryz.prog.cellsOf 65 = 3 := by kernel_rfl
theorem kMov : Tryz.prog.cellsOf 67 = 2 := by kernel_rfl
theorem kLot : Tryz.prog.cellsOf 69 = 3 := by kernel_rfl
theorem kDig : Tryz.prog.cellsOf 71 = 32 := by kernel_rfl
theorem kLed : Tryz.prog.cellsOf 47 = 1 := by kernel_rfl
theorem kFacts : Tryz.prog.cellsOf 22 = 1 := by kernel_rfl
theorem kFact : Tryz.prog.cellsOf 73 = 82 := by kernel_rfl

section
variable {w : World} {us : List Value}
theorem rdI (h : Rd Tryz.prog w 3 us) : ∃ n, us = [.int .i64 n] := by
  obtain ⟨n, e, _⟩ := Rd_int Go.Proofs.Tryz.underlying3 h
  exact ⟨n, e⟩
theorem rdB (h : Rd Tryz.prog w 4 us) : ∃ b, us = [.bool b] := Rd_bool Go.Proofs.Tryz.underlying4 h
theorem rdStr (h : Rd Tryz.prog w 9 us) : ∃ l, us = [.string (str l)] ∧ l.length ≤ 9223372036854775807 := by
  obtain ⟨s, e, hb⟩ := Rd_string Go.Proofs.Tryz.underlying9 h
  obtain ⟨l, rfl⟩ := str_back s
  unfold maxLen at hb
  exact ⟨l, e, by rw [str_size] at hb; omega⟩
theorem fin4 {a b c d : List Value} (hl : us.length = 4) (h0 : (us.drop 0).take 1 = a) (h1 : (us.drop 1).take 1 = b) (h2 : (us.drop 2).take 1 = c) (h3 : (us.drop 3).take 1 = d) : us = a ++ (b ++ (c ++ (d ++ []))) := by
  have e : us.drop 4 = [] := List.drop_eq_nil_of_le (by omega)
  have := cutAt h0
  rw [cutAt h1, cutAt h2, cutAt h3, e] at this
  simpa using this
theorem rdGame (h : Rd Tryz.prog w 24 us) : ∃ g, us = gameC g := by
  obtain ⟨hl, hf⟩ := Rd_struct Go.Proofs.Tryz.underlying24 h
  rw [kGame] at hl
  have f0 := Rd_at (t := 3) (o := 0) kInt (hf 0 _ rfl)
  have f1 := Rd_at (t := 3) (o := 1) kInt (hf 1 _ rfl)
  have f2 := Rd_at (t := 3) (o := 2) kInt (hf 2 _ rfl)
  have f3 := Rd_at (t := 3) (o := 3) kInt (hf 3 _ rfl)
  obtain ⟨a, e0⟩ := rdI f0; obtain ⟨b, e1⟩ := rdI f1; obtain ⟨c, e2⟩ := rdI f2; obtain ⟨d, e3⟩ := rdI f3
  exact ⟨⟨a, b, c, d⟩, fin4 hl e0 e1 e2 e3⟩
theorem rdCard (h : Rd Tryz.prog w 103 us) : ∃ c, us = encC c := by
  obtain ⟨hl, hf⟩ := Rd_struct Go.Proofs.Tryz.underlying103 h
  rw [kCard] at hl
  have f0 := Rd_at (t := 3) (o := 0) kInt (hf 0 _ rfl)
  have f1 := Rd_at (t := 4) (o := 1) kBool (hf 1 _ rfl)
  obtain ⟨a, e0⟩ := rdI f0; obtain ⟨b, e1⟩ := rdB f1
  refine ⟨⟨a, b⟩, ?_⟩
  have e : us.drop 2 = [] := List.drop_eq_nil_of_le (by omega)
  have := cutAt e0
  rw [cutAt e1, e] at this
  rw [List.drop_zero] at this
  rw [this]
  rfl
theorem rdInts (h : Rd Tryz.prog w 25 us) : ∃ A n c xs, us = [.slice A n c] ∧ n ≤ c ∧ SlOf encI 1 (mem w) A n xs ∧ xs.length ≤ 9223372036854775807 := by
  obtain ⟨A, n, c, xs, e, h1, h3, h2⟩ := Rd_slice (enc := encI) Go.Proofs.Tryz.underlying25 kInt (fun _ hu => rdI hu) h
  unfold maxLen at h3
  have := h2.len
  exact ⟨A, n, c, xs, e, h1, h2, by omega⟩
theorem rdCards (h : Rd Tryz.prog w 26 us) : ∃ A n c xs, us = [.slice A n c] ∧ SlOf encC 2 (mem w) A n xs ∧ xs.length ≤ 9223372036854775807 := by
  obtain ⟨A, n, c, xs, e, h1, h3, h2⟩ := Rd_slice (enc := encC) Go.Proofs.Tryz.underlying26 kCard (fun _ hu => rdCard hu) h
  unfold maxLen at h3
  have := h2.len
  exact ⟨A, n, c, xs, e, h2, by omega⟩
theorem rdEnt (h : Rd Tryz.prog w 57 us) : ∃ a b A n c xs r, us = [.int .i64 a, .int .i64 b, .slice A n c, .string (str r)] ∧ SlOf encI 1 (mem w) A n xs ∧ xs.length ≤ 9223372036854775807 ∧ r.length ≤ 9223372036854775807 := by
  obtain ⟨hl, hf⟩ := Rd_struct Go.Proofs.Tryz.underlying57 h
  rw [kEnt] at hl
  have f0 := Rd_at (t := 3) (o := 0) kInt (hf 0 _ rfl)
  have f1 := Rd_at (t := 3) (o := 1) kInt (hf 1 _ rfl)
  have f2 := Rd_at (t := 25) (o := 2) kInts (hf 2 _ rfl)
  have f3 := Rd_at (t := 9) (o := 3) kStr (hf 3 _ rfl)
  obtain ⟨a, e0⟩ := rdI f0; obtain ⟨b, e1⟩ := rdI f1; obtain ⟨A, n, c, xs, e2, _, hs, hb⟩ := rdInts f2; obtain ⟨r, e3, hr⟩ := rdStr f3
  exact ⟨a, b, A, n, c, xs, r, fin4 hl e0 e1 e2 e3, hs, hb, hr⟩
theorem rdFix (h : Rd Tryz.prog w 59 us) : ∃ g v, us = gameC g ++ [.int .i64 v] := by
  obtain ⟨hl, hf⟩ := Rd_struct Go.Proofs.Tryz.underlying59 h
  rw [kFix] at hl
  have f0 := Rd_at (t := 24) (o := 0) kGame (hf 0 _ rfl)
  have f1 := Rd_at (t := 3) (o := 4) kInt (hf 1 _ rfl)
  obtain ⟨g, e0⟩ := rdGame f0; obtain ⟨v, e1⟩ := rdI f1
  refine ⟨g, v, ?_⟩
  have e : us.drop 5 = [] := List.drop_eq_nil_of_le (by omega)
  have := cutAt e0
  rw [cutAt e1, e] at this
  rw [List.drop_zero] at this
  rw [this]
  rfl
theorem rdSheet (h : Rd Tryz.prog w 28 us) : ∃ (s : Fsh) (x : FSheet), us = sheetC s x ∧ ShAt (mem w) s x ∧ ShSm x := by
  obtain ⟨hl, hf⟩ := Rd_struct Go.Proofs.Tryz.underlying28 h
  rw [kSheet] at hl
  have f0 := Rd_at (t := 24) (o := 0) kGame (hf 0 _ rfl)
  have f1 := Rd_at (t := 3) (o := 4) kInt (hf 1 _ rfl)
  have f2 := Rd_at (t := 3) (o := 5) kInt (hf 2 _ rfl)
  have f3 := Rd_at (t := 3) (o := 6) kInt (hf 3 _ rfl)
  have f4 := Rd_at (t := 3) (o := 7) kInt (hf 4 _ rfl)
  have f5 := Rd_at (t := 3) (o := 8) kInt (hf 5 _ rfl)
  have f6 := Rd_at (t := 25) (o := 9) kInts (hf 6 _ rfl)
  have f7 := Rd_at (t := 25) (o := 10) kInts (hf 7 _ rfl)
  have f8 := Rd_at (t := 26) (o := 11) kCards (hf 8 _ rfl)
  have f9 := Rd_at (t := 26) (o := 12) kCards (hf 9 _ rfl)
  obtain ⟨g, e0⟩ := rdGame f0; obtain ⟨a1, e1⟩ := rdI f1; obtain ⟨a2, e2⟩ := rdI f2; obtain ⟨a3, e3⟩ := rdI f3; obtain ⟨a4, e4⟩ := rdI f4; obtain ⟨a5, e5⟩ := rdI f5
  obtain ⟨A6, n6, c6, x6, e6, _, h6, b6⟩ := rdInts f6; obtain ⟨A7, n7, c7, x7, e7, _, h7, b7⟩ := rdInts f7; obtain ⟨A8, n8, c8, x8, e8, h8, b8⟩ := rdCards f8; obtain ⟨A9, n9, c9, x9, e9, h9, b9⟩ := rdCards f9
  refine ⟨{ fsh0 with hs := ⟨A6, n6, c6⟩, asn := ⟨A7, n7, c7⟩, hc := ⟨A8, n8, c8⟩, ac := ⟨A9, n9, c9⟩ }, ⟨g, a1, a2, a3, a4, a5, x6, x7, x8, x9⟩, ?_, ⟨h6, h7, h8, h9⟩, ⟨b6, b7, b8, b9⟩⟩
  have e : us.drop 13 = [] := List.drop_eq_nil_of_le (by omega)
  have := cutAt e0
  rw [cutAt e1, cutAt e2, cutAt e3, cutAt e4, cutAt e5, cutAt e6, cutAt e7, cutAt e8, cutAt e9, e] at this
  rw [List.drop_zero] at this
  rw [this]
  rfl
theorem rdIvl7 (h : Rd Tryz.prog w 61 us) : ∃ a b, us = [.int .i64 a, .int .i64 b] := by
  obtain ⟨hl, hf⟩ := Rd_struct Go.Proofs.Tryz.underlying61 h
  rw [kIvl] at hl
  have f0 := Rd_at (t := 3) (o := 0) kInt (hf 0 _ rfl)
  have f1 := Rd_at (t := 3) (o := 1) kInt (hf 1 _ rfl)
  obtain ⟨a, e0⟩ := rdI f0; obtain ⟨b, e1⟩ := rdI f1
  refine ⟨a, b, ?_⟩
  have e : us.drop 2 = [] := List.drop_eq_nil_of_le (by omega)
  have := cutAt e0
  rw [cutAt e1, e] at this
  rw [List.drop_zero] at this
  rw [this]
  rfl
theorem rdRul (h : Rd Tryz.prog w 63 us) : ∃ r, us = rulC r := by
  obtain ⟨hl, hf⟩ := Rd_struct Go.Proofs.Tryz.underlying63 h
  rw [kRul] at hl
  have f0 := Rd_at (t := 3) (o := 0) kInt (hf 0 _ rfl)
  have f1 := Rd_at (t := 3) (o := 1) kInt (hf 1 _ rfl)
  have f2 := Rd_at (t := 3) (o := 2) kInt (hf 2 _ rfl)
  have f3 := Rd_at (t := 24) (o := 3) kGame (hf 3 _ rfl)
  have f4 := Rd_at (t := 3) (o := 7) kInt (hf 4 _ rfl)
  have f5 := Rd_at (t := 3) (o := 8) kInt (hf 5 _ rfl)
  have f6 := Rd_at (t := 3) (o := 9) kInt (hf 6 _ rfl)
  have f7 := Rd_at (t := 3) (o := 10) kInt (hf 7 _ rfl)
  have f8 := Rd_at (t := 3) (o := 11) kInt (hf 8 _ rfl)
  have f9 := Rd_at (t := 3) (o := 12) kInt (hf 9 _ rfl)
  have f10 := Rd_at (t := 3) (o := 13) kInt (hf 10 _ rfl)
  have f11 := Rd_at (t := 3) (o := 14) kInt (hf 11 _ rfl)
  have f12 := Rd_at (t := 61) (o := 15) kIvl (hf 12 _ rfl)
  obtain ⟨a0, e0⟩ := rdI f0; obtain ⟨a1, e1⟩ := rdI f1; obtain ⟨a2, e2⟩ := rdI f2; obtain ⟨g, e3⟩ := rdGame f3; obtain ⟨a4, e4⟩ := rdI f4; obtain ⟨a5, e5⟩ := rdI f5
  obtain ⟨a6, e6⟩ := rdI f6; obtain ⟨a7, e7⟩ := rdI f7; obtain ⟨a8, e8⟩ := rdI f8; obtain ⟨a9, e9⟩ := rdI f9; obtain ⟨a10, e10⟩ := rdI f10; obtain ⟨a11, e11⟩ := rdI f11; obtain ⟨lo, hi, e12⟩ := rdIvl7 f12
  refine ⟨⟨a0, a1, a2, g, a4, a5, a6, a7, a8, a9, a10, a11, lo, hi⟩, ?_⟩
  have e : us.drop 17 = [] := List.drop_eq_nil_of_le (by omega)
  have := cutAt e0
  rw [cutAt e1, cutAt e2, cutAt e3, cutAt e4, cutAt e5, cutAt e6, cutAt e7, cutAt e8, cutAt e9, cutAt e10, cutAt e11, cutAt e12, e] at this
  rw [List.drop_zero] at this
  rw [this]
  rfl
theorem rdApp (h : Rd Tryz.prog w 65 us) : ∃ a b c, us = [.int .i64 a, .int .i64 b, .bool c] := by
  obtain ⟨hl, hf⟩ := Rd_struct Go.Proofs.Tryz.underlying65 h
  rw [kApp] at hl
  have f0 := Rd_at (t := 3) (o := 0) kInt (hf 0 _ rfl)
  have f1 := Rd_at (t := 3) (o := 1) kInt (hf 1 _ rfl)
  have f2 := Rd_at (t := 4) (o := 2) kBool (hf 2 _ rfl)
  obtain ⟨a, e0⟩ := rdI f0; obtain ⟨b, e1⟩ := rdI f1; obtain ⟨c, e2⟩ := rdB f2
  refine ⟨a, b, c, ?_⟩
  have e : us.drop 3 = [] := List.drop_eq_nil_of_le (by omega)
  have := cutAt e0
  rw [cutAt e1, cutAt e2, e] at this
  rw [List.drop_zero] at this
  rw [this]
  rfl
theorem rdMov (h : Rd Tryz.prog w 67 us) : ∃ a b, us = [.int .i64 a, .int .i64 b] := by
  obtain ⟨hl, hf⟩ := Rd_struct Go.Proofs.Tryz.underlying67 h
  rw [kMov] at hl
  have f0 := Rd_at (t := 3) (o := 0) kInt (hf 0 _ rfl)
  have f1 := Rd_at (t := 3) (o := 1) kInt (hf 1 _ rfl)
  obtain ⟨a, e0⟩ := rdI f0; obtain ⟨b, e1⟩ := rdI f1
  refine ⟨a, b, ?_⟩
  have e : us.drop 2 = [] := List.drop_eq_nil_of_le (by omega)
  have := cutAt e0
  rw [cutAt e1, e] at this
  rw [List.drop_zero] at this
  rw [this]
  rfl
theorem rdLot (h : Rd Tryz.prog w 69 us) : ∃ a b A n c xs, us = [.int .i64 a, .int .i64 b, .slice A n c] ∧ n ≤ c ∧ SlOf encI 1 (mem w) A n xs ∧ xs.length ≤ 9223372036854775807 := by
  obtain ⟨hl, hf⟩ := Rd_struct Go.Proofs.Tryz.underlying69 h
  rw [kLot] at hl
  have f0 := Rd_at (t := 3) (o := 0) kInt (hf 0 _ rfl)
  have f1 := Rd_at (t := 3) (o := 1) kInt (hf 1 _ rfl)
  have f2 := Rd_at (t := 25) (o := 2) kInts (hf 2 _ rfl)
  obtain ⟨a, e0⟩ := rdI f0; obtain ⟨b, e1⟩ := rdI f1; obtain ⟨A, n, c, xs, e2, hc, hs, hb⟩ := rdInts f2
  refine ⟨a, b, A, n, c, xs, ?_, hc, hs, hb⟩
  have e : us.drop 3 = [] := List.drop_eq_nil_of_le (by omega)
  have := cutAt e0
  rw [cutAt e1, cutAt e2, e] at this
  rw [List.drop_zero] at this
  rw [this]
  rfl
theorem voidC_map (v : List UInt8) : voidC v = (List.range 32).map (vB v) := rfl
theorem rdVoid (h : Rd Tryz.prog w 71 us) : ∃ v : List UInt8, v.length = 32 ∧ us = voidC v := by
  obtain ⟨hl, hf⟩ := Rd_array Go.Proofs.Tryz.underlying71 h
  rw [kDig] at hl
  rw [kByte] at hf
  have hb : ∀ i, i < 32 → ∃ b : UInt8, us[i]? = some (.int .u8 b.toNat) := fun i hi => by
    obtain ⟨n, e, hw⟩ := Rd_int Go.Proofs.Tryz.underlying5 (hf i hi)
    rw [Nat.mul_one] at e
    have hr : 0 ≤ n ∧ n < 256 := by
      simp [Lit.wf, IntKind.min, IntKind.max, IntKind.bits, IntKind.signed] at hw
      omega
    refine ⟨UInt8.ofNat n.toNat, ?_⟩
    rw [take_one e, UInt8.toNat_ofNat']
    congr 2
    omega
  have hx : ∀ i, ∃ b : UInt8, i < 32 → us[i]? = some (.int .u8 b.toNat) := fun i => by
    by_cases hi : i < 32
    · obtain ⟨b, e⟩ := hb i hi; exact ⟨b, fun _ => e⟩
    · exact ⟨0, fun h => absurd h hi⟩
  obtain ⟨f, hf2⟩ := Classical.axiomOfChoice hx
  refine ⟨(List.range 32).map f, by simp, ?_⟩
  rw [voidC_map]
  apply List.ext_getElem?
  intro i
  by_cases hi : i < 32
  · rw [hf2 i hi, List.getElem?_map, List.getElem?_range hi]
    simp [vB, List.getD, List.getElem?_map, List.getElem?_range hi]
  · rw [List.getElem?_eq_none (by omega), List.getElem?_eq_none (by simp; omega)]
theorem rdFact (h : Rd Tryz.prog w 73 us) : ∃ p : Fsh × Fct, us = encF82 p ∧ FAt (mem w) p.1 p.2 ∧ FSm p.2 := by
  obtain ⟨hl, hf⟩ := Rd_struct Go.Proofs.Tryz.underlying73 h
  rw [kFact] at hl
  have f0 := Rd_at (t := 3) (o := 0) kInt (hf 0 _ rfl)
  have f1 := Rd_at (t := 3) (o := 1) kInt (hf 1 _ rfl)
  have f2 := Rd_at (t := 3) (o := 2) kInt (hf 2 _ rfl)
  have f3 := Rd_at (t := 57) (o := 3) kEnt (hf 3 _ rfl)
  have f4 := Rd_at (t := 59) (o := 7) kFix (hf 4 _ rfl)
  have f5 := Rd_at (t := 28) (o := 12) kSheet (hf 5 _ rfl)
  have f6 := Rd_at (t := 63) (o := 25) kRul (hf 6 _ rfl)
  have f7 := Rd_at (t := 65) (o := 42) kApp (hf 7 _ rfl)
  have f8 := Rd_at (t := 67) (o := 45) kMov (hf 8 _ rfl)
  have f9 := Rd_at (t := 69) (o := 47) kLot (hf 9 _ rfl)
  have f10 := Rd_at (t := 71) (o := 50) kDig (hf 10 _ rfl)
  obtain ⟨a0, e0⟩ := rdI f0; obtain ⟨a1, e1⟩ := rdI f1; obtain ⟨a2, e2⟩ := rdI f2
  obtain ⟨eS, eC, Ae, ne, ce, xe, er, e3, he, be, br⟩ := rdEnt f3
  obtain ⟨fg, ve, e4⟩ := rdFix f4
  obtain ⟨s, x, e5, hs, bs⟩ := rdSheet f5
  obtain ⟨r, e6⟩ := rdRul f6
  obtain ⟨aC, aI, aS, e7⟩ := rdApp f7
  obtain ⟨mP, mT, e8⟩ := rdMov f8
  obtain ⟨lS, lC, Al, nl, cl, xl, e9, hcl, hl9, bl⟩ := rdLot f9
  obtain ⟨v, hv, e10⟩ := rdVoid f10
  refine ⟨({ s with cl := ⟨Ae, ne, ce⟩, lo := ⟨Al, nl, cl⟩ }, ⟨a0, a1, a2, eS, eC, xe, er, fg, ve, x, r, aC, aI, aS, mP, mT, lS, lC, xl, v⟩), ?_, ⟨⟨hs.hs, hs.asn, hs.hc, hs.ac⟩, he, hl9, hv, hcl⟩, ⟨bs, be, bl, br⟩⟩
  have e : us.drop 82 = [] := List.drop_eq_nil_of_le (by omega)
  have := cutAt e0
  rw [cutAt e1, cutAt e2, cutAt e3, cutAt e4, cutAt e5, cutAt e6, cutAt e7, cutAt e8, cutAt e9, cutAt e10, e] at this
  rw [List.drop_zero] at this
  rw [this]
  rfl
end

section
variable {H : Type} {enc : TypeId × Value → H} {W : World} {base : Nat} {v : Value} {d : DataW H} {p : List MemPlace}
theorem argI (hv : Value.okWide Tryz.prog W .any base 3 v) : ∃ n, v = .int .i64 n := okWide_int Go.Proofs.Tryz.underlying3 hv
theorem argU (hv : Value.okWide Tryz.prog W .any base 137 v) (h : DataW.Trod enc Tryz.prog W 0 (fun _ => true) true 137 v d p) : ∃ n, v = .int .u64 n ∧ 0 ≤ n := by
  obtain ⟨n, rfl⟩ := okWide_int Go.Proofs.Tryz.underlying137 hv
  obtain ⟨n', e, hw⟩ := Rd_int Go.Proofs.Tryz.underlying137 (Rd_of h)
  simp [Value.cells] at e
  subst e
  refine ⟨n, rfl, ?_⟩
  simp [Lit.wf, IntKind.min, IntKind.max, IntKind.bits, IntKind.signed] at hw
  omega
theorem argG (hv : Value.okWide Tryz.prog W .any base 24 v) (h : DataW.Trod enc Tryz.prog W 0 (fun _ => true) true 24 v d p) : ∃ g, v = gameV g := by
  obtain ⟨cs, rfl, _⟩ := okWide_struct Go.Proofs.Tryz.underlying24 hv
  obtain ⟨x, e⟩ := rdGame (Rd_of h)
  refine ⟨x, ?_⟩
  simp [Value.cells] at e
  have : cs = cs.toList.toArray := by simp
  rw [this, e]; rfl
theorem argF (hv : Value.okWide Tryz.prog W .any base 73 v) (h : DataW.Trod enc Tryz.prog W 0 (fun _ => true) true 73 v d p) : ∃ s f, v = factV s f ∧ FAt (mem W) s f ∧ FSm f := by
  obtain ⟨cs, rfl, _⟩ := okWide_struct Go.Proofs.Tryz.underlying73 hv
  obtain ⟨x, e, hf⟩ := rdFact (Rd_of h)
  refine ⟨x.1, x.2, ?_, hf⟩
  simp [Value.cells] at e
  have : cs = cs.toList.toArray := by simp
  rw [this, e]; rfl
theorem argSh (hv : Value.okWide Tryz.prog W .any base 28 v) (h : DataW.Trod enc Tryz.prog W 0 (fun _ => true) true 28 v d p) : ∃ s x, v = sheetV s x ∧ ShAt (mem W) s x ∧ ShSm x := by
  obtain ⟨cs, rfl, _⟩ := okWide_struct Go.Proofs.Tryz.underlying28 hv
  obtain ⟨s, x, e, hf⟩ := rdSheet (Rd_of h)
  refine ⟨s, x, ?_, hf⟩
  simp [Value.cells] at e
  have : cs = cs.toList.toArray := by simp
  rw [this, e]; rfl
theorem argL (hv : Value.okWide Tryz.prog W .any base 22 v) (h : DataW.Trod enc Tryz.prog W 0 (fun _ => true) true 22 v d p) : ∃ A n c l, v = .slice A n c ∧ n ≤ c ∧ n ≤ 9223372036854775807 ∧ SlOf encF82 82 (mem W) A n l ∧ ∀ p ∈ l, FAt (mem W) p.1 p.2 := by
  obtain ⟨A, n, c, rfl⟩ := okWide_slice Go.Proofs.Tryz.underlying22 hv
  obtain ⟨A', n', c', xs, e, h1, h2, h3, h4⟩ := Rd_sliceP (enc := encF82) (S := fun p => FAt (mem W) p.1 p.2) Go.Proofs.Tryz.underlying22 kFact (fun _ hu => by obtain ⟨p, e, q, _⟩ := rdFact hu; exact ⟨p, e, q⟩) (Rd_of h)
  simp [Value.cells] at e
  obtain ⟨rfl, rfl, rfl⟩ := e
  unfold maxLen at h2
  exact ⟨_, _, _, xs, rfl, h1, by omega, h3, h4⟩
theorem argL2 (hv : Value.okWide Tryz.prog W .any base 22 v) (h : DataW.Trod enc Tryz.prog W 0 (fun _ => true) true 22 v d p) : ∃ A n c l, v = .slice A n c ∧ LedIn (mem W) A n c l := by
  obtain ⟨A, n, c, rfl⟩ := okWide_slice Go.Proofs.Tryz.underlying22 hv
  obtain ⟨A', n', c', xs, e, h1, h2, h3, h4⟩ := Rd_sliceP (enc := encF82) (S := fun p => FAt (mem W) p.1 p.2 ∧ FSm p.2) Go.Proofs.Tryz.underlying22 kFact (fun _ hu => rdFact hu) (Rd_of h)
  simp [Value.cells] at e
  obtain ⟨rfl, rfl, rfl⟩ := e
  unfold maxLen at h2
  exact ⟨_, _, _, xs, rfl, h3, h4, h1, by omega⟩
theorem argLed (hv : Value.okWide Tryz.prog W .any base 47 v) (h : DataW.Trod enc Tryz.prog W 0 (fun _ => true) true 47 v d p) : ∃ A n c l, v = ledV A n c ∧ LedIn (mem W) A n c l := by
  obtain ⟨cs, rfl, _⟩ := okWide_struct Go.Proofs.Tryz.underlying47 hv
  obtain ⟨hl, hf⟩ := Rd_struct Go.Proofs.Tryz.underlying47 (Rd_of h)
  rw [kLed] at hl
  have f0 := Rd_at (t := 22) (o := 0) kFacts (hf 0 _ rfl)
  obtain ⟨A', n', c', xs, e, h1, h2, h3, h4⟩ := Rd_sliceP (enc := encF82) (S := fun p => FAt (mem W) p.1 p.2 ∧ FSm p.2) Go.Proofs.Tryz.underlying22 kFact (fun _ hu => rdFact hu) f0
  simp [Value.cells] at e hl
  refine ⟨A', n', c', xs, ?_, h3, h4, h1, by unfold maxLen at h2; omega⟩
  have : cs = cs.toList.toArray := by simp
  rw [this]
  have e2 : cs.toList = [.slice A' n' c'] := by
    rw [← e, List.take_of_length_le (by simp; omega)]
  rw [e2]; rfl
end
theorem own : ownKnob Tryz.prog.godebug = none := by kernel_rfl
theorem laidOut : laidOutB Tryz.prog = true := by kernel_rfl

/-! ### The laid variables -/
theorem laid_ints {P : Program} {w : World} {H : Type} {enc : TypeId × Value → H} {sp : Nat → Bool} {held : Bool} {n : Nat} {t e : TypeId} {k : IntKind} {cs : List Value} {fuel : Nat} {ls : List Int} {p : List MemPlace} (ht : P.underlying t = some (.array n e)) (he : P.underlying e = some (.int k)) (hz : P.cellsOf e = 1) (hc : P.cellsOf t = n)
    (hd : DataW.trod enc P w 0 sp held fuel t cs = some (.agg (ls.map fun z => .lit (.int k z)), p)) : cs = ls.map fun z => .int k z := by
  obtain ⟨xs, m, _, hx, hl, hn, hel⟩ := DataW.trod_array ht hd
  simp only [Prod.mk.injEq, DataW.agg.injEq] at hx
  obtain ⟨hx, _⟩ := hx
  have hll : ls.length = n := by
    have := congrArg List.length hx
    simp at this; omega
  apply List.ext_getElem?
  intro i
  by_cases hi : i < n
  · have h0 := hel i hi
    rw [hz] at h0
    have hxi : i < xs.length := by omega
    rw [List.getElem?_eq_getElem hxi] at h0
    obtain ⟨k', e1, e2, _⟩ := DataW.trod_int he h0
    rw [Nat.mul_one] at e1
    rw [take_one e1]
    have h1 := congrArg (fun q => q[i]?) hx
    simp only [List.getElem?_map, List.getElem?_eq_getElem hxi, List.getElem?_eq_getElem (show i < ls.length by omega), Option.map_some, Option.some.injEq] at h1
    rw [e2] at h1
    simp only [DataW.lit.injEq, Lit.int.injEq, true_and] at h1
    rw [List.getElem?_map, List.getElem?_eq_getElem (show i < ls.length by omega), Option.map_some, h1]
  · rw [List.getElem?_eq_none (by omega), List.getElem?_eq_none (by rw [List.length_map]; omega)]
abbrev laidL : List (String × DataW Unit) := [("math/bits.deBruijn32tab", Go.Proofs.YtajmniiiahhfaaaGreatDoor.Rows.laid_math_bits_deBruijn32tab), ("math/bits.deBruijn64tab", Go.Proofs.YtajmniiiahhfaaaGreatDoor.Rows.laid_math_bits_deBruijn64tab), ("internal/strconv.uint64pow10", Go.Proofs.YtajmniiiahhfaaaGreatDoor.Rows.laid_internal_strconv_uint64pow10)]
theorem door_met (os : Os) (args : Array Value) : laidMetH Tryz.prog laidL ((World.doorLaid Tryz.prog 400 os).forCall (fun _ _ => 0) ⟨#[], args, []⟩).memory :=
  laidMetH_of_parts3 (fuel := 8) (laidMet_of_run' 8 (by kernel_rfl) (by kernel_rfl)) (by kernel_rfl) (by kernel_rfl)
theorem gPow : Tryz.prog.globalNamed "internal/strconv.uint64pow10" = some 1 := by kernel_rfl
theorem tPow : (Tryz.prog.globals[(1 : Nat)]?).map (·.type) = some 272 := by kernel_rfl
theorem powL : (Go.Proofs.YtajmniiiahhfaaaGreatDoor.Rows.laid_internal_strconv_uint64pow10 : DataW Unit) = .agg (Lib.pow10Tab.map fun z => .lit (.int .u64 z)) := rfl
theorem powG_of {W : World} (h : laidMetH Tryz.prog laidL W) : PowG (mem W) := by
  rw [MakeChecks.laidMetH_plain _ _ _ (by kernel_rfl)] at h
  obtain ⟨ps, ⟨_, _, _, _, _, _, _, _, _, _, ⟨_, _, _, _, _, _, _, _, _, _, ⟨g, t, cs, fu, p, q, hg, ht, hv, hd, _, _⟩, _⟩, _⟩, _, _⟩ := h
  obtain rfl := Option.some.inj (gPow.symm.trans hg)
  obtain rfl := Option.some.inj (tPow.symm.trans ht)
  rw [powL] at hd
  have hc := laid_ints Go.Proofs.Tryz.underlying272 Go.Proofs.Tryz.underlying172 (by kernel_rfl) (by kernel_rfl) hd
  unfold World.var? at hv
  rw [gPow, Option.bind_some] at hv
  split at hv
  · rename_i cs' t' fz hh
    injection hv with hv
    refine ⟨_, t', fz, gPow, ?_⟩
    show W.heap[_]? = _
    rw [hh, hv, ← hc]
  · cases hv
end Go.Hw

import Derived.Test.YtekcphgpmihmlabGreatDoorVY8
import Derived.Test.YtekcphgpmihmlabGreatDoorVL3
import Derived.Test.YtekcphgpmihmlabGreatDoorVShS
/-
  A registry as an argument, opened; the sort's contract.
-/
set_option linter.unusedVariables false
set_option maxRecDepth 100000
namespace Go.Hw
open Go Go.ChangeShapes Go.WideShapes Go.RowKit
open Go.Proofs (Tryz.prog)
open Go.Proofs.YtekcphgpmihmlabGreatDoor (Rows.none)

theorem sortSaid : SortSaid := fun e v xs n h hn hx => sortFn Go.Proofs.Tryz.slices_Sort_int Go.Proofs.Tryz.slices_Sort_int_none e v xs n h hn hx
theorem rdI9 {w : World} {us : List Value} (h : Rd Tryz.prog w 3 us) : ∃ n, us = encI n := rdI h

section
variable {H : Type} {enc : TypeId × Value → H} {W : World} {base : Nat} {v : Value} {d : DataW H} {p : List MemPlace}
theorem argR (hv : Value.okWide Tryz.prog W .any base 61 v) (h : DataW.Trod enc Tryz.prog W 0 (fun _ => true) true 61 v d p) : ∃ (r : Reg) (s : Rsh), v = regV r.league r.day s ∧ SlOf encI 1 (mem W) s.ac s.nc r.clubs ∧ SlOf encE 7 (mem W) s.ae s.ne r.ents := by
  obtain ⟨cs, rfl, _⟩ := okWide_struct Go.Proofs.Tryz.underlying61 hv
  have h0 := Rd_of h
  have cR : Tryz.prog.cellsOf 61 = 4 := by kernel_rfl
  have cE : Tryz.prog.cellsOf 98 = 7 := by kernel_rfl
  have cI : Tryz.prog.cellsOf 29 = 1 := by kernel_rfl
  have cS : Tryz.prog.cellsOf 59 = 1 := by kernel_rfl
  have rdEnt : ∀ {us : List Value}, Rd Tryz.prog W 98 us → ∃ x, us = encE x := by
    intro us h
    obtain ⟨hl, hf⟩ := Rd_struct Go.Proofs.Tryz.underlying98 h
    rw [cE] at hl
    obtain ⟨n0, e0⟩ := Rd_intAt Go.Proofs.Tryz.underlying3 kInt (hf 0 _ rfl)
    obtain ⟨n1, e1⟩ := Rd_intAt Go.Proofs.Tryz.underlying3 kInt (hf 1 _ rfl)
    obtain ⟨n2, e2⟩ := Rd_intAt Go.Proofs.Tryz.underlying3 kInt (hf 2 _ rfl)
    obtain ⟨n3, e3⟩ := Rd_intAt Go.Proofs.Tryz.underlying3 kInt (hf 3 _ rfl)
    obtain ⟨n4, e4⟩ := Rd_intAt Go.Proofs.Tryz.underlying3 kInt (hf 4 _ rfl)
    obtain ⟨n5, e5⟩ := Rd_intAt Go.Proofs.Tryz.underlying3 kInt (hf 5 _ rfl)
    obtain ⟨n6, e6⟩ := Rd_intAt Go.Proofs.Tryz.underlying3 kInt (hf 6 _ rfl)
    refine ⟨⟨n0, n1, n2, n3, n4, n5, n6⟩, ?_⟩
    match us, hl with
    | [a, b, c, d, e, f, g], _ => simp at e0 e1 e2 e3 e4 e5 e6; simp [encE, *]
  obtain ⟨hl, hf⟩ := Rd_struct Go.Proofs.Tryz.underlying61 h0
  rw [cR] at hl
  obtain ⟨n0, e0⟩ := Rd_intAt Go.Proofs.Tryz.underlying3 kInt (hf 0 _ rfl)
  obtain ⟨A, n, c, xs, e1, _, _, h1⟩ := Rd_sliceAt (enc := encI) Go.Proofs.Tryz.underlying29 cI kInt (fun _ => rdI9) (hf 1 _ rfl)
  obtain ⟨n2, e2⟩ := Rd_intAt Go.Proofs.Tryz.underlying3 kInt (hf 2 _ rfl)
  obtain ⟨A', n', c', es, e3, _, _, h3⟩ := Rd_sliceAt (enc := encE) Go.Proofs.Tryz.underlying59 cS cE (fun _ => rdEnt) (hf 3 _ rfl)
  refine ⟨⟨n0, xs, n2, es⟩, ⟨A, n, c, A', n', c'⟩, ?_, h1, h3⟩
  have e4 : cs = cs.toList.toArray := by simp
  have e5 : cs.toList = [.int .i64 n0, .slice A n c, .int .i64 n2, .slice A' n' c'] := by
    have hv : (Value.agg cs).cells.toList = cs.toList := by simp [Value.cells]
    rw [hv] at hl e0 e1 e2 e3
    match hq : cs.toList, hl with
    | [a, b, c, d], _ => rw [hq] at e0 e1 e2 e3; simp at e0 e1 e2 e3; simp [*]
  rw [e4, e5]; rfl
end
end Go.Hw

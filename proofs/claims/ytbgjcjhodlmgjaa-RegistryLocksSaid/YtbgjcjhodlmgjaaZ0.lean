import Derived.Test.YtbgjcjhodlmgjaaW20
import Derived.Test.YtbgjcjhodlmgjaaSh
import Derived.Test.YtbgjcjhodlmgjaaHwV
import Derived.Test.YtbgjcjhodlmgjaaRows
set_option linter.unusedVariables false
set_option maxRecDepth 100000
namespace Go.Hw
open Go Go.ChangeShapes Go.WideShapes Go.RowKit
open Go.Proofs (Try.prog)
open Go.Proofs.Ytbgjcjhodlmgjaa (Rows.none)

theorem sortSaid : SortSaid := fun e v xs n h hn hx => sortFn Go.Proofs.Try.slices_Sort_int Go.Proofs.Try.slices_Sort_int_none e v xs n h hn hx

theorem cells3 : Try.prog.cellsOf 3 = 1 := by kernel_rfl
theorem cells22 : Try.prog.cellsOf 22 = 1 := by kernel_rfl
theorem cells23 : Try.prog.cellsOf 23 = 1 := by kernel_rfl
theorem cells25 : Try.prog.cellsOf 25 = 4 := by kernel_rfl
theorem cells27 : Try.prog.cellsOf 27 = 7 := by kernel_rfl

theorem rdInt {w : World} {us : List Value} (h : Rd Try.prog w 3 us) : ∃ n, us = encI n := by
  obtain ⟨n, e, _⟩ := Rd_int Go.Proofs.Try.underlying3 h
  exact ⟨n, e⟩
theorem rdEnt {w : World} {us : List Value} (h : Rd Try.prog w 27 us) : ∃ x, us = encE x := by
  obtain ⟨hl, hf⟩ := Rd_struct Go.Proofs.Try.underlying27 h
  rw [cells27] at hl
  obtain ⟨n0, e0⟩ := Rd_intAt Go.Proofs.Try.underlying3 cells3 (hf 0 _ rfl)
  obtain ⟨n1, e1⟩ := Rd_intAt Go.Proofs.Try.underlying3 cells3 (hf 1 _ rfl)
  obtain ⟨n2, e2⟩ := Rd_intAt Go.Proofs.Try.underlying3 cells3 (hf 2 _ rfl)
  obtain ⟨n3, e3⟩ := Rd_intAt Go.Proofs.Try.underlying3 cells3 (hf 3 _ rfl)
  obtain ⟨n4, e4⟩ := Rd_intAt Go.Proofs.Try.underlying3 cells3 (hf 4 _ rfl)
  obtain ⟨n5, e5⟩ := Rd_intAt Go.Proofs.Try.underlying3 cells3 (hf 5 _ rfl)
  obtain ⟨n6, e6⟩ := Rd_intAt Go.Proofs.Try.underlying3 cells3 (hf 6 _ rfl)
  refine ⟨⟨n0, n1, n2, n3, n4, n5, n6⟩, ?_⟩
  match us, hl with
  | [a, b, c, d, e, f, g], _ => simp at e0 e1 e2 e3 e4 e5 e6; simp [encE, *]
theorem rdReg {w : World} {us : List Value} (h : Rd Try.prog w 25 us) : ∃ (lg day : Int) (s : Rsh) (xs : List Int) (es : List Ent), us = [.int .i64 lg, .slice s.ac s.nc s.cc, .int .i64 day, .slice s.ae s.ne s.ce] ∧
    SlOf encI 1 (mem w) s.ac s.nc xs ∧ SlOf encE 7 (mem w) s.ae s.ne es := by
  obtain ⟨hl, hf⟩ := Rd_struct Go.Proofs.Try.underlying25 h
  rw [cells25] at hl
  obtain ⟨n0, e0⟩ := Rd_intAt Go.Proofs.Try.underlying3 cells3 (hf 0 _ rfl)
  obtain ⟨A, n, c, xs, e1, _, _, h1⟩ := Rd_sliceAt (enc := encI) Go.Proofs.Try.underlying22 cells22 cells3 (fun _ => rdInt) (hf 1 _ rfl)
  obtain ⟨n2, e2⟩ := Rd_intAt Go.Proofs.Try.underlying3 cells3 (hf 2 _ rfl)
  obtain ⟨A', n', c', es, e3, _, _, h3⟩ := Rd_sliceAt (enc := encE) Go.Proofs.Try.underlying23 cells23 cells27 (fun _ => rdEnt) (hf 3 _ rfl)
  refine ⟨n0, n2, ⟨A, n, c, A', n', c'⟩, xs, es, ?_, h1, h3⟩
  match us, hl with
  | [a, b, c, d], _ => simp at e0 e1 e2 e3; simp [*]

section
variable {H : Type} {enc : TypeId × Value → H} {W : World} {base : Nat} {v : Value} {d : DataW H} {p : List MemPlace}
theorem arg3 (hv : Value.okWide Try.prog W .any base 3 v) : ∃ n, v = .int .i64 n := okWide_int Go.Proofs.Try.underlying3 hv
theorem arg22 (hv : Value.okWide Try.prog W .any base 22 v) (h : DataW.Trod enc Try.prog W 0 (fun _ => true) true 22 v d p) : ∃ A n c xs, v = .slice A n c ∧ n ≤ c ∧ c ≤ maxLen ∧ SlOf encI 1 (mem W) A n xs := by
  obtain ⟨A, n, c, rfl⟩ := okWide_slice Go.Proofs.Try.underlying22 hv
  obtain ⟨A', n', c', xs, e, h1, h2, h3⟩ := Rd_slice (enc := encI) Go.Proofs.Try.underlying22 cells3 (fun _ => rdInt) (Rd_of h)
  simp [Value.cells] at e
  obtain ⟨rfl, rfl, rfl⟩ := e
  exact ⟨_, _, _, xs, rfl, h1, h2, h3⟩
theorem arg27 (hv : Value.okWide Try.prog W .any base 27 v) (h : DataW.Trod enc Try.prog W 0 (fun _ => true) true 27 v d p) : ∃ x, v = entV x := by
  obtain ⟨cs, rfl, _⟩ := okWide_struct Go.Proofs.Try.underlying27 hv
  obtain ⟨x, e⟩ := rdEnt (Rd_of h)
  refine ⟨x, ?_⟩
  simp [Value.cells] at e
  have : cs = cs.toList.toArray := by simp
  rw [this, e]; rfl
theorem arg25 (hv : Value.okWide Try.prog W .any base 25 v) (h : DataW.Trod enc Try.prog W 0 (fun _ => true) true 25 v d p) : ∃ (r : Reg) (s : Rsh), v = regV r.league r.day s ∧ SlOf encI 1 (mem W) s.ac s.nc r.clubs ∧ SlOf encE 7 (mem W) s.ae s.ne r.ents := by
  obtain ⟨cs, rfl, _⟩ := okWide_struct Go.Proofs.Try.underlying25 hv
  obtain ⟨lg, day, s, xs, es, e, h1, h2⟩ := rdReg (Rd_of h)
  refine ⟨⟨lg, xs, day, es⟩, s, ?_, h1, h2⟩
  simp [Value.cells] at e
  have : cs = cs.toList.toArray := by simp
  rw [this, e]; rfl
end
theorem own : ownKnob Try.prog.godebug = none := by kernel_rfl
theorem laidOut : laidOutB Try.prog = true := by kernel_rfl
end Go.Hw

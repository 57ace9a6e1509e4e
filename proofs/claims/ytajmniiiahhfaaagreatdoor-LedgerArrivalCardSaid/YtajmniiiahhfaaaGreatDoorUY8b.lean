import Derived.Test.YtajmniiiahhfaaaGreatDoorUY8
set_option linter.unusedSimpArgs false
/-
  An argument that is a row of bytes, opened.
-/
set_option linter.unusedVariables false
set_option maxRecDepth 100000
namespace Go.Hw
open Go Go.ChangeShapes Go.WideShapes Go.RowKit
open Go.Proofs (Tryz.prog)
section
variable {H : Type} {enc : TypeId × Value → H} {W : World} {base : Nat} {v : Value} {d : DataW H} {p : List MemPlace}
theorem rdByte {w : World} {us : List Value} (h : Rd Tryz.prog w 5 us) : ∃ b : UInt8, us = encB b := by
  obtain ⟨n, e, hw⟩ := Rd_int Go.Proofs.Tryz.underlying5 h
  have hr : 0 ≤ n ∧ n < 256 := by
    simp [Lit.wf, IntKind.min, IntKind.max, IntKind.bits, IntKind.signed] at hw
    omega
  refine ⟨UInt8.ofNat n.toNat, ?_⟩
  rw [e]
  unfold encB
  rw [UInt8.toNat_ofNat']
  congr 2
  omega
theorem argY (hv : Value.okWide Tryz.prog W .any base 78 v) (h : DataW.Trod enc Tryz.prog W 0 (fun _ => true) true 78 v d p) : ∃ A n c l, v = .slice A n c ∧ n ≤ 9223372036854775807 ∧ SlOf encB 1 (mem W) A n l := by
  obtain ⟨A, n, c, rfl⟩ := okWide_slice Go.Proofs.Tryz.underlying78 hv
  obtain ⟨A', n', c', xs, e, h1, h2, h3⟩ := Rd_slice (enc := encB) Go.Proofs.Tryz.underlying78 kByte (fun _ hu => rdByte hu) (Rd_of h)
  simp [Value.cells] at e
  obtain ⟨rfl, rfl, rfl⟩ := e
  unfold maxLen at h2
  exact ⟨_, _, _, xs, rfl, by omega, h3⟩
end
end Go.Hw

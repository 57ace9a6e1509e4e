import Derived.Test.YtlnenhhbalpbpaaGreatDoorYY
import Derived.Test.YtlnenhhbalpbpaaGreatDoorBA
set_option linter.unusedVariables false
set_option maxRecDepth 100000
namespace Go.Hw
open Go Go.ChangeShapes Go.WideShapes Go.RowKit
open Go.Proofs (Tryz.prog)
open Go.Proofs.YtlnenhhbalpbpaaGreatDoor (Rows.none)
theorem kRes : Tryz.prog.cellsOf 28 = 13:=by kernel_rfl
section
variable {w : World} {us : List Value}
theorem rdRes (h : Rd Tryz.prog w 28 us) : ∃ r,us = resC r:=by
  obtain ⟨hl,hf⟩:=Rd_struct Go.Proofs.Tryz.underlying28 h
  rw [kRes] at hl
  have f0:=Rd_at (t:=24) (o:=0) kGame (hf 0 _ rfl)
  have f1:=Rd_at (t:=3) (o:=4) kInt (hf 1 _ rfl)
  have f2:=Rd_at (t:=3) (o:=5) kInt (hf 2 _ rfl)
  have f3:=Rd_at (t:=3) (o:=6) kInt (hf 3 _ rfl)
  have f4:=Rd_at (t:=3) (o:=7) kInt (hf 4 _ rfl)
  have f5:=Rd_at (t:=3) (o:=8) kInt (hf 5 _ rfl)
  have f6:=Rd_at (t:=3) (o:=9) kInt (hf 6 _ rfl)
  have f7:=Rd_at (t:=3) (o:=10) kInt (hf 7 _ rfl)
  have f8:=Rd_at (t:=4) (o:=11) kBool (hf 8 _ rfl)
  have f9:=Rd_at (t:=4) (o:=12) kBool (hf 9 _ rfl)
  obtain ⟨g,e0⟩:=rdGame f0;obtain ⟨a1,e1⟩:=rdI f1;obtain ⟨a2,e2⟩:=rdI f2;obtain ⟨a3,e3⟩:=rdI f3;obtain ⟨a4,e4⟩:=rdI f4;obtain ⟨a5,e5⟩:=rdI f5;obtain ⟨a6,e6⟩:=rdI f6;obtain ⟨a7,e7⟩:=rdI f7;obtain ⟨b8,e8⟩:=rdB f8;obtain ⟨b9,e9⟩:=rdB f9
  refine ⟨⟨g,a1,a2,a3,a4,a5,a6,a7,b8,b9⟩,?_⟩
  have e : us.drop 13 = []:=List.drop_eq_nil_of_le (by omega)
  have:=cutAt e0
  rw [cutAt e1,cutAt e2,cutAt e3,cutAt e4,cutAt e5,cutAt e6,cutAt e7,cutAt e8,cutAt e9,e] at this
  rw [List.drop_zero] at this
  rw [this]
  rfl
end
section
variable {H : Type} {enc : TypeId × Value → H} {W : World} {base : Nat} {v : Value} {d : DataW H} {p : List MemPlace}
theorem argRes (hv : Value.okWide Tryz.prog W .any base 28 v) (h : DataW.Trod enc Tryz.prog W 0 (fun _ => true) true 28 v d p) : ∃ r,v = resV r:=by
  obtain ⟨cs,rfl,_⟩:=okWide_struct Go.Proofs.Tryz.underlying28 hv
  obtain ⟨r,e⟩:=rdRes (Rd_of h)
  refine ⟨r,?_⟩
  simp [Value.cells] at e
  have : cs = cs.toList.toArray:=by simp
  rw [this,e]
end
end Go.Hw

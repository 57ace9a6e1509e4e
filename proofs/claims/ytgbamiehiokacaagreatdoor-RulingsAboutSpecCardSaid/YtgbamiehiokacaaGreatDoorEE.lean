import Derived.Test.YtgbamiehiokacaaGreatDoorED
import Derived.Test.YtgbamiehiokacaaGreatDoorEB
set_option linter.unusedVariables false
set_option linter.unusedSimpArgs false
set_option maxRecDepth 100000
set_option maxHeartbeats 8000000
namespace Go.Hw
open Go
attribute [local irreducible] GO GOl GDp Val Fn Res CellsAt ValE Blk OwnS MapA OwnPf Has Yl idF
open Go.Proofs (Tryz.prog)
end Go.Hw
namespace Go.Hw
open Go
attribute [local irreducible] GO GOl GDp Val Fn Res CellsAt ValE Blk OwnS MapA OwnPf Has Yl idF
open Go.Proofs (Tryz.prog)
theorem Oq {h : Ro} {l : List (Fsh × Fct)} (hf : ∀ p ∈ l,FAt h p.1 p.2 ∧ FSm p.2) : In32 (fcs l):=fun f hf2 => by
 obtain ⟨p,hp,rfl⟩:=List.mem_map.1 hf2
 exact (hf p hp).1.void
end Go.Hw
namespace Go.Hw
open Go
def LedIs (h : Ro) (A : Option Addr) (k c : Nat) (l : List (Fsh × Fct)) (L : List Fct) : Prop:=k ≤ c ∧ LedAt h A k l ∧ fcs l = L
theorem LedIs.le {h h' : Ro} {A : Option Addr} {k c : Nat} {l : List (Fsh × Fct)} {L : List Fct} (a : LedIs h A k c l L) (hl : Le h h') : LedIs h' A k c l L:=⟨a.1,a.2.1.le hl,a.2.2⟩
theorem fcs_sub {l r : List (Fsh × Fct)} (hs : ∀ p ∈ r,p ∈ l) : ∀ f ∈ fcs r,f ∈ fcs l:=fun f hf => by
 obtain ⟨p,hp,rfl⟩:=List.mem_map.1 hf
 exact List.mem_map.2 ⟨p,hs p hp,rfl⟩
end Go.Hw

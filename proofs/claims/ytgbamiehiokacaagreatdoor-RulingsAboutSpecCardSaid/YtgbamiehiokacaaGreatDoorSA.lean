import Derived.Test.YtgbamiehiokacaaGreatDoorGC
import Derived.Test.YtgbamiehiokacaaGreatDoorFA
import Derived.Test.YtgbamiehiokacaaGreatDoorHB
import Derived.Test.YtgbamiehiokacaaGreatDoorHwUs
import Derived.Test.YtgbamiehiokacaaGreatDoorKSh
set_option linter.unusedVariables false
set_option linter.unusedSimpArgs false
set_option maxRecDepth 100000
set_option maxHeartbeats 4000000
namespace Go.Hw
open Go
attribute [local irreducible] GO GOl GDp Val Fn Res CellsAt ValE Blk OwnS MapA OwnPf Has Yl
open Go.Proofs (Tryz.prog)
structure FactsAt (h : Ro) (A : Option Addr) (n : Nat) (l : List (Fsh × Fct)) : Prop where
 row : SlOf encF82 82 h A n l
 fat : ∀ p ∈ l,FAt h p.1 p.2 ∧ FSm p.2
 small : n ≤ 1000000
theorem FactsAt.le {h h' : Ro} {A : Option Addr} {n : Nat} {l : List (Fsh × Fct)} (a : FactsAt h A n l) (hl : Le h h') : FactsAt h' A n l:=⟨a.row.le hl,fun p hp => ⟨(a.fat p hp).1.le hl,(a.fat p hp).2⟩,a.small⟩
def p0 : Fsh × Fct:=(fsh0,fct0)
end Go.Hw
namespace Go.Hw
open Go
attribute [local irreducible] GO GOl GDp Val Fn Res CellsAt ValE Blk OwnS MapA OwnPf Has Yl
open Go.Proofs (Tryz.prog)
abbrev Pr:=(Fsh × Fct) × (Fsh × Fct)
def pr0 : Pr:=(p0,p0)
def FGood (h : Ro) (x : Fsh × Fct) : Prop:=FAt h x.1 x.2 ∧ FSm x.2 ∧ FctOk x.2 ∧ x.2.kind = 3
def PrAt (h : Ro) (p : Pr) : Prop:=(p.1.2.kind = 0 ∨ FGood h p.1) ∧ (p.2.2.kind = 0 ∨ FGood h p.2)
theorem FGood.le {h h' : Ro} {x : Fsh × Fct} (a : FGood h x) (hl : Le h h') : FGood h' x:=⟨a.1.le hl,a.2⟩
theorem PrAt.le {h h' : Ro} {p : Pr} (a : PrAt h p) (hl : Le h h') : PrAt h' p:=⟨a.1.imp id (·.le hl),a.2.imp id (·.le hl)⟩
theorem PrAt.zero (h : Ro) : PrAt h pr0:=⟨.inl rfl,.inl rfl⟩
def takeP (p : Pr) (x : Fsh × Fct) : Pr :=
 if x.2.sh.ref = 0 then (if p.1.2.kind = 0 ∨ cmpF p.1.2 x.2 < 0 then (x,p.2) else p) else (if p.2.2.kind = 0 ∨ cmpF p.2.2 x.2 < 0 then (p.1,x) else p)
theorem PrAt.take {h : Ro} {p : Pr} {x : Fsh × Fct} (hp : PrAt h p) (hx : FGood h x) : PrAt h (takeP p x):=by
 unfold takeP
 split
 · split
   · exact ⟨.inr hx,hp.2⟩
   · exact hp
 · split
   · exact ⟨hp.1,.inr hx⟩
   · exact hp
theorem ShSm.nil : ShSm sheet0:=⟨by decide,by decide,by decide,by decide⟩
end Go.Hw
namespace Go.Hw
open Go
attribute [local irreducible] GO GOl GDp Val Fn Res CellsAt ValE Blk OwnS MapA OwnPf Has Yl RngA
open Go.Proofs (Tryz.prog ltOf)
open Go.Sort (SWO)
def LtG (a b : FGame) : Prop:=a.s < b.s ∨ (a.s = b.s ∧ (a.c < b.c ∨ (a.c = b.c ∧ (a.h < b.h ∨ (a.h = b.h ∧ a.a < b.a)))))
instance (a b : FGame) : Decidable (LtG a b):=by unfold LtG;infer_instance
theorem LtG.trans {a b c : FGame} (h1 : LtG a b) (h2 : LtG b c) : LtG a c:=by unfold LtG at *;omega
end Go.Hw

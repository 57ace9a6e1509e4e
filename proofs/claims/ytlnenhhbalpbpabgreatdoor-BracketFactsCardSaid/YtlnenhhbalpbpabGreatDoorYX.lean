import Derived.Test.YtlnenhhbalpbpabGreatDoorYY
import Derived.Test.YtlnenhhbalpbpabGreatDoorBA
set_option linter.all false
set_option maxRecDepth 100000
namespace Go.Hw
open Go Go.ChangeShapes Go.WideShapes Go.RowKit
open Go.Proofs (Tryz.prog)
open Go.Proofs.YtlnenhhbalpbpabGreatDoor (Rows.none)
theorem kTie:Tryz.prog.cellsOf 24=2:=by kernel_rfl
section
variable {w:World} {us:List Value}
end
section
variable {w:World} {us:List Value}
theorem rdTie (h:Rd Tryz.prog w 24 us):∃ t,us=tieC t:=by
 obtain ⟨hl,hf⟩:=Fm Go.Proofs.Tryz.underlying24 h
 rw [kTie] at hl
 have f0:=Dl (t:=3) (o:=0) kInt (hf 0 _ rfl)
 have f1:=Dl (t:=4) (o:=1) kBool (hf 1 _ rfl)
 obtain ⟨a0,e0⟩:=rdI f0;obtain ⟨b1,e1⟩:=rdB f1
 refine ⟨⟨a0,b1⟩,?_⟩
 have e:us.drop 2=[]:=List.drop_eq_nil_of_le (by omega)
 have:=Dy e0
 rw [Dy e1,e] at this
 rw [List.drop_zero] at this
 rw [this]
 rfl
end
section
variable {H:Type} {enc:TypeId×Value→H} {W:World} {base:Nat} {v:Value} {d:DataW H} {p:List MemPlace}
end
section
variable {H:Type} {enc:TypeId×Value→H} {W:World} {base:Nat} {v:Value} {d:DataW H} {p:List MemPlace}
theorem argTie (hv:Value.okWide Tryz.prog W .any base 24 v)(h:DataW.Trod enc Tryz.prog W 0 (fun _=>true) true 24 v d p):∃ t,v=Gca t:=by
 obtain ⟨cs,rfl,_⟩:=okWide_struct Go.Proofs.Tryz.underlying24 hv
 obtain ⟨r,e⟩:=rdTie (Rd_of h)
 refine ⟨r,?_⟩
 simp [Value.cells] at e
 have:cs=cs.toList.toArray:=by simp
 rw [this,e]
end
end Go.Hw
namespace Go.Hw
open Go Go.ChangeShapes Go.WideShapes Go.RowKit
open Go.Proofs (Tryz.prog)
theorem rdFactC {w:World}{us:List Value}(h:Rd Tryz.prog w 57 us):∃ p:Fsh×Fct,us=Bx p∧(FAt (mem w) p.1 p.2∧FSm p.2)∧p.1.cl.n≤p.1.cl.c:=by
 obtain ⟨p,e,q⟩:=rdFact h
 refine ⟨p,e,q,?_⟩
 obtain ⟨hl,hf⟩:=Fm Go.Proofs.Tryz.underlying57 h
 have f3:=Dl (t:=36) (o:=3) kEnt (hf 3 _ rfl)
 obtain ⟨hl3,hf3⟩:=Fm Go.Proofs.Tryz.underlying36 f3
 have g2:=Dl (t:=34) (o:=2) kInts (hf3 2 _ rfl)
 obtain ⟨A,n,c,xs,e2,hc,_⟩:=Dwa g2
 rw [e] at e2
 have e3:[Value.slice p.1.cl.A p.1.cl.n p.1.cl.c]=[.slice A n c]:=e2
 injection e3 with e3
 injection e3 with _ e4 e5
 rw [e4,e5];exact hc
theorem argL2c {H:Type}{enc:TypeId×Value→H}{W:World}{base:Nat}{v:Value}{d:DataW H}{p:List MemPlace}(hv:Value.okWide Tryz.prog W .any base 22 v)(h:DataW.Trod enc Tryz.prog W 0 (fun _=>true) true 22 v d p) :
  ∃ A n c l,v=.slice A n c∧LedIn (mem W) A n c l∧∀ p∈l,p.1.cl.n≤p.1.cl.c:=by
 obtain ⟨A,n,c,rfl⟩:=okWide_slice Go.Proofs.Tryz.underlying22 hv
 obtain ⟨A',n',c',xs,e,h1,h2,h3,h4⟩:=Rd_sliceP (enc:=Bx) (S:=fun p=>(FAt (mem W) p.1 p.2∧FSm p.2)∧p.1.cl.n≤p.1.cl.c) Go.Proofs.Tryz.underlying22 kFact (fun _ hu=>rdFactC hu) (Rd_of h)
 simp [Value.cells] at e
 obtain ⟨rfl,rfl,rfl⟩:=e
 unfold maxLen at h2
 exact ⟨_,_,_,xs,rfl,⟨h3,fun p hp=>(h4 p hp).1,h1,by omega⟩,fun p hp=>(h4 p hp).2⟩
end Go.Hw

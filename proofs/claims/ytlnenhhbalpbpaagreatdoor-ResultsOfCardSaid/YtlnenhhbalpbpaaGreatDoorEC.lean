import Derived.Test.YtlnenhhbalpbpaaGreatDoorEB
import Derived.Test.YtlnenhhbalpbpaaGreatDoorHD
import Derived.Test.YtlnenhhbalpbpaaGreatDoorDA
import Derived.Test.YtlnenhhbalpbpaaGreatDoorGC
import Derived.Test.YtlnenhhbalpbpaaGreatDoorMR2s
import Derived.Test.YtlnenhhbalpbpaaGreatDoorFB
set_option linter.all false
set_option maxRecDepth 100000
set_option maxHeartbeats 8000000
namespace Go.Hw
open Go
attribute [local irreducible] GO GOl GDp Val Fn Res Ab Du Blk Bd Cd Bf Has Yl
open Go.Proofs.Tryz (prog)
end Go.Hw
namespace Go.Hw
open Go
attribute [local irreducible] GO GOl GDp Val Fn Res Ab Du Blk Bd Cd Bf Has Yl
open Go.Proofs.Tryz (prog)
open Classical in
noncomputable def knownE (l:List Fct) (k:Int):List Fct×Int:=if ledE l≠0 then ([],ledE l) else if ¬ (0≤k∧k≤1048576) then ([],1) else (knownL l k,0)
end Go.Hw
namespace Go.Hw
open Go
attribute [local irreducible] GO GOl GDp Val Fn Res Ab Du Blk Bd Cd Bf Has Yl idF
open Go.Proofs.Tryz (prog)
end Go.Hw
namespace Go.Hw
open Go
attribute [local irreducible] GO GOl GDp Val Fn Res Ab Du Blk Bd Cd Bf Has Yl idF
open Go.Proofs.Tryz (prog)
abbrev DgK:Type:={d:List UInt8 // d.length=32}
def kD (d:List UInt8):DgK:=if h:d.length=32 then ⟨d,h⟩ else ⟨List.replicate 32 0,rfl⟩
def vmap (l:List (Fsh×Fct)):List (DgK×Bool):=l.foldl (fun m p=>if p.2.kind=8 then Im (kD p.2.void) true m else m) []
open Classical in
noncomputable def viewE (l:List Fct) (day known:Int):List Fct×Int:=if ledE l≠0 then ([],ledE l) else if ¬ (0≤day∧day≤1048576)∨¬ (0≤known∧known≤1048576) then ([],1) else (viewL idF l day known,0)
open Classical in
noncomputable def viewP (l:List (Fsh×Fct)) (day known:Int) (x:List (Fsh×Fct)):List (Fsh×Fct):=x.filter fun p=>decide (InF idF (fcs l) day known p.2)
end Go.Hw
namespace Go.Hw
open Go
attribute [local irreducible] GO GOl GDp Val Fn Res Ab Du Blk Bd Cd Bf Has Yl idF vmap viewP kD
open Go.Proofs.Tryz (prog)
end Go.Hw
namespace Go.Hw
open Go
attribute [local irreducible] GO GOl GDp Val Fn Res Ab Du Blk Bd Cd Bf Has Yl idF
open Go.Proofs.Tryz (prog)
section
variable {C:Ctx} {l:Sl} {h:Ro} {ty t ty':TypeId} {pos:String} {aft:Array Edge} {gd:Option (Nat×Bool)} {dst:Option Tmp} {x y:Operand} {T:Ty}
end
end Go.Hw
namespace Go.Hw
open Go
attribute [local irreducible] GO GOl GDp Val Fn Res Ab Du Blk Bd Cd Bf Has Yl idF
open Go.Proofs.Tryz (prog)
theorem Au.len {h:Ro}{A:Option Addr}{n:Nat}{l:List (Fsh×Fct)}(a:Au h A n l):(fcs l).length=n:=by
 unfold fcs;rw [List.length_map];exact a.row.len
end Go.Hw
namespace Go.Hw
open Go
attribute [local irreducible] GO GOl GDp Val Fn Res Ab Du Blk Bd Cd Bf Has Yl idF
open Go.Proofs.Tryz (prog)
end Go.Hw
namespace Go.Hw
open Go
attribute [local irreducible] GO GOl GDp Val Fn Res Ab Du Blk Bd Cd Bf Has Yl idF
open Go.Proofs.Tryz (prog)
theorem Ta {h:Ro}{l:List (Fsh×Fct)}(hf:∀ p∈l,FAt h p.1 p.2∧FSm p.2):Mk (fcs l):=fun f hf2=>by
 obtain ⟨p,hp,rfl⟩:=List.mem_map.1 hf2
 exact (hf p hp).1.void
end Go.Hw
namespace Go.Hw
open Go
def Fla (h:Ro) (A:Option Addr) (k c:Nat) (l:List (Fsh×Fct)) (L:List Fct):Prop:=k≤c∧Yb h A k l∧fcs l=L
theorem Fla.le {h h':Ro}{A:Option Addr}{k c:Nat}{l:List (Fsh×Fct)}{L:List Fct}(a:Fla h A k c l L)(hl:Le h h'):Fla h' A k c l L:=⟨a.1,a.2.1.le hl,a.2.2⟩
theorem fcs_sub {l r:List (Fsh×Fct)}(hs:∀ p∈r,p∈l):∀ f∈fcs r,f∈fcs l:=fun f hf=>by
 obtain ⟨p,hp,rfl⟩:=List.mem_map.1 hf
 exact List.mem_map.2 ⟨p,hs p hp,rfl⟩
end Go.Hw

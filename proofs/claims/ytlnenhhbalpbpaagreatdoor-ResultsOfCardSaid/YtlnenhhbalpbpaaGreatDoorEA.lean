import Derived.Test.YtlnenhhbalpbpaaGreatDoorSA
import Derived.Test.YtlnenhhbalpbpaaGreatDoorFB
import Derived.Test.YtlnenhhbalpbpaaGreatDoorHD
import Derived.Test.YtlnenhhbalpbpaaGreatDoorHB
set_option linter.all false
set_option maxRecDepth 100000
set_option maxHeartbeats 4000000
namespace Go.Hw
open Go
attribute [local irreducible] GO GOl GDp Val Fn Res Ab Du Blk Bd Cd Bf Has Yl
open Go.Proofs.Tryz (prog)
def FGd (h:Ro) (p:Fsh×Fct):Prop:=FAt h p.1 p.2∧FSm p.2∧Bm p.2
theorem FGd.le {h h':Ro}{p:Fsh×Fct}(g:FGd h p)(hl:Le h h'):FGd h' p:=⟨g.1.le hl,g.2⟩
theorem FGd.in_ {h:Ro}{p:Fsh×Fct}(g:FGd h p):Mj p.2:=⟨g.2.2,g.1.void⟩
structure Yb (h:Ro) (A:Option Addr) (n:Nat) (l:List (Fsh×Fct)):Prop where
 row:Ar Aq 82 h A n l
 good:∀ p∈l,FGd h p
 small:n≤1000000
theorem Yb.le {h h':Ro}{A:Option Addr}{n:Nat}{l:List (Fsh×Fct)}(a:Yb h A n l)(hl:Le h h'):Yb h' A n l:=⟨a.row.le hl,fun p hp=>(a.good p hp).le hl,a.small⟩
theorem Yb.facts {h:Ro}{A:Option Addr}{n:Nat}{l:List (Fsh×Fct)}(a:Yb h A n l):Au h A n l:=⟨a.row,fun p hp=>⟨(a.good p hp).1,(a.good p hp).2.1⟩,a.small⟩
theorem Yb.nil (h:Ro):Yb h none 0 []:=⟨Ar.nil,fun p hp=>absurd hp QAn,by omega⟩
theorem cmp_c (h:Ro)(hG:Iv h)(x y:Fsh×Fct)(hx:FGd h x)(hy:FGd h y):Res prog 41 #[Br x.1 x.2,Br y.1 y.2] h (fun u _=>u=.int .i64 (Gp x.2 y.2)) :=
 La h hG x.1 y.1 x.2 y.2 hx.1 hx.2.1 hy.1 hy.2.1 hx.2.2 hy.2.2
end Go.Hw
set_option maxHeartbeats 8000000
namespace Go.Hw
open Go
attribute [local irreducible] GO GOl GDp Val Fn Res Ab Du Blk Bd Cd Bf Has Yl
open Go.Proofs.Tryz (prog)
end Go.Hw
namespace Go.Hw
open Go
attribute [local irreducible] GO GOl GDp Val Fn Res Ab Du Blk Bd Cd Bf Has Yl
open Go.Proofs.Tryz (prog)
theorem Kz:∀ x:Fsh×Fct,∀ v∈Aq x,v.oneCell'=true:=fun x=>Bh rfl
end Go.Hw

import Derived.Test.YtlnenhhbalpbpabGreatDoorSA
import Derived.Test.YtlnenhhbalpbpabGreatDoorFB
import Derived.Test.YtlnenhhbalpbpabGreatDoorHD
import Derived.Test.YtlnenhhbalpbpabGreatDoorHB
set_option linter.all false
set_option maxRecDepth 100000
set_option maxHeartbeats 4000000
namespace Go.Hw
open Go
attribute [local irreducible] GO GOl GDp Val Fn Res At Fx Blk By Dk Cl Has Yl
open Go.Proofs (Tryz.prog)
def FGd (h:Ro) (p:Fsh×Fct):Prop:=FAt h p.1 p.2∧FSm p.2∧Cg p.2
theorem FGd.le {h h':Ro}{p:Fsh×Fct}(g:FGd h p)(hl:Le h h'):FGd h' p:=⟨g.1.le hl,g.2⟩
theorem FGd.in_ {h:Ro}{p:Fsh×Fct}(g:FGd h p):Qb p.2:=⟨g.2.2,g.1.void⟩
structure LedAt (h:Ro) (A:Option Addr) (n:Nat) (l:List (Fsh×Fct)):Prop where
 row:Cc Bx 82 h A n l
 good:∀ p∈l,FGd h p
 small:n≤1000000
theorem LedAt.le {h h':Ro}{A:Option Addr}{n:Nat}{l:List (Fsh×Fct)}(a:LedAt h A n l)(hl:Le h h'):LedAt h' A n l:=⟨a.row.le hl,fun p hp=>(a.good p hp).le hl,a.small⟩
theorem LedAt.nil (h:Ro):LedAt h none 0 []:=⟨Cc.nil,fun p hp=>absurd hp (by simp),by omega⟩
theorem cmp_c (h:Ro)(hG:Kg h)(x y:Fsh×Fct)(hx:FGd h x)(hy:FGd h y):Res Tryz.prog 47 #[Fc x.1 x.2,Fc y.1 y.2] h (fun u _=>u=.int .i64 (Jv x.2 y.2)) :=
 Hx h hG x.1 y.1 x.2 y.2 hx.1 hx.2.1 hy.1 hy.2.1 hx.2.2 hy.2.2
end Go.Hw
set_option maxHeartbeats 8000000
namespace Go.Hw
open Go
attribute [local irreducible] GO GOl GDp Val Fn Res At Fx Blk By Dk Cl Has Yl
open Go.Proofs (Tryz.prog)
end Go.Hw
namespace Go.Hw
open Go
attribute [local irreducible] GO GOl GDp Val Fn Res At Fx Blk By Dk Cl Has Yl
open Go.Proofs (Tryz.prog)
theorem Ft:∀ x:Fsh×Fct,∀ v∈Bx x,v.oneCell'=true:=fun x=>Ci rfl
end Go.Hw

import Derived.Test.YtgbamiehiokacaaGreatDoorEB
import Derived.Test.YtgbamiehiokacaaGreatDoorHD
import Derived.Test.YtgbamiehiokacaaGreatDoorDB
import Derived.Test.YtgbamiehiokacaaGreatDoorGC
set_option linter.unusedVariables false
set_option linter.unusedSimpArgs false
set_option maxRecDepth 100000
set_option maxHeartbeats 8000000
namespace Go.Hw
open Go
attribute [local irreducible] GO GOl GDp Val Fn Res CellsAt ValE Blk OwnS MapA OwnPf Has Yl
open Go.Proofs (Tryz.prog)
end Go.Hw
namespace Go.Hw
open Go
attribute [local irreducible] GO GOl GDp Val Fn Res CellsAt ValE Blk OwnS MapA OwnPf Has Yl
open Go.Proofs (Tryz.prog)
open Classical in
noncomputable def knownE (l : List Fct) (k : Int) : List Fct × Int:=if ledE l ≠ 0 then ([],ledE l) else if ¬ (0 ≤ k ∧ k ≤ 1048576) then ([],1) else (knownL l k,0)
end Go.Hw
namespace Go.Hw
open Go
attribute [local irreducible] GO GOl GDp Val Fn Res CellsAt ValE Blk OwnS MapA OwnPf Has Yl idF
open Go.Proofs (Tryz.prog)
def digV (d : List UInt8) : Value:=.agg (voidC d).toArray
theorem digV_eq {d : List UInt8} (h : d.length = 32) : dgV d = digV d:=by
 unfold dgV digV
 rw [← map_u8,← Qx d h]
theorem id2_c (h : Ro) (hG : PowG h) (s : Fsh) (f : Fct) (hf : FAt h s f) (hs : FSm f) (hok : FctOk f) : Res Tryz.prog 51 #[factV s f] h fun u _ => u = .tuple #[digV (idF f),.int .i64 0] :=
 (id_c h hG s f hf hs).mono fun u h' _ e => by rw [e,if_pos hok,digV_eq (Iv f)]
open Classical in
noncomputable def missE (a b : List Fct) : List (List UInt8) × Int:=if ledE a ≠ 0 then ([],ledE a) else if ledE b ≠ 0 then ([],ledE b) else ((missL a b).map idF,0)
theorem Gn (d : List UInt8) : (voidC d).length = 32:=rfl
theorem Th : ∀ d : List UInt8,∀ v ∈ voidC d,v.oneCell' = true:=fun d => Bz rfl
end Go.Hw

import Derived.Test.YtcnddgmcfjaihaaGreatDoorXR8
import Derived.Test.YtcnddgmcfjaihaaGreatDoorEE
set_option linter.unusedVariables false
set_option linter.unusedSimpArgs false
set_option maxRecDepth 100000
set_option maxHeartbeats 8000000
namespace Go.Hw
open Go
attribute [local irreducible] GO GOl GDp Val Fn Res CellsAt ValE Blk OwnS MapA OwnPf Has Yl idF
open Go.Proofs (Tryz.prog)
theorem insF_at {x : Fct} : ∀ {L : List Fct} {k : Nat},k ≤ L.length → (∀ i,i < k → cmpF (L.getD i fct0) x < 0) → (k < L.length → ¬ cmpF (L.getD k fct0) x < 0) → insF x L = if k < L.length ∧ L.getD k fct0 = x then L else L.take k ++ x :: L.drop k
  | [],k,hk,_,_ => by
    have : k = 0:=by simpa using hk
    subst this;simp [insF]
  | y :: r,0,_,_,h2 => by
    have h2:=h2 (by simp)
    simp only [List.getD_cons_zero] at h2
    unfold insF
    rw [if_neg h2]
    simp
  | y :: r,k + 1,hk,h1,h2 => by
    have h0:=h1 0 (by omega)
    simp only [List.getD_cons_zero] at h0
    have ih:=insF_at (x:=x) (L:=r) (k:=k) (by simpa using hk) (fun i hi => by have:=h1 (i + 1) (by omega);simpa using this) (fun hlt => by have:=h2 (by simpa using hlt);simpa using this)
    unfold insF
    rw [if_pos h0,ih]
    simp only [List.length_cons,Nat.add_lt_add_iff_right,List.getD_cons_succ,List.take_succ_cons,List.drop_succ_cons]
    split
    · rfl
    · rfl
theorem fcs_getD (l : List (Fsh × Fct)) {k : Nat} (hk : k < l.length) : (fcs l).getD k fct0 = (l.getD k p0).2:=by
  unfold fcs
  simp [List.getD,List.getElem?_eq_getElem hk]
theorem compareG_c (h : Ro) (p q : Fsh × Fct) (hp : FGd h p) (hq : FGd h q) : Res Tryz.prog 51 #[factV p.1 p.2,factV q.1 q.2] h (fun u _ => u = .int .i64 (cmpF p.2 q.2)) :=
  compareR7_c h p.1 q.1 p.2 q.2 hp.1 hp.2.1 hq.1 hq.2.1 hp.2.2 hq.2.2
end Go.Hw

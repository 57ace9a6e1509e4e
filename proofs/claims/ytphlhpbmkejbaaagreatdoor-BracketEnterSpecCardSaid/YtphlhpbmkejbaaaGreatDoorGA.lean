import Derived.Test.YtphlhpbmkejbaaaGreatDoorFA
import Derived.Test.YtphlhpbmkejbaaaGreatDoorHC
import Derived.Test.YtphlhpbmkejbaaaGreatDoorJT
set_option linter.unusedVariables false
namespace Go.Hw
open Go
structure Sli where
  A : Option Addr
  n : Nat
  c : Nat
def sli0 : Sli:=⟨none,0,0⟩
structure Fsh where
  cl : Sli
  hs : Sli
  asn : Sli
  hc : Sli
  ac : Sli
  lo : Sli
def fsh0 : Fsh:=⟨sli0,sli0,sli0,sli0,sli0,sli0⟩
def encC (c : FCard) : List Value:=[.int .i64 c.p,.bool c.red]
def gameC (g : FGame) : List Value:=[.int .i64 g.s,.int .i64 g.c,.int .i64 g.h,.int .i64 g.a]
def gameV (g : FGame) : Value:=.agg (gameC g).toArray
structure ShAt (h : Ro) (s : Fsh) (x : FSheet) : Prop where
  hs : SlOf encI 1 h s.hs.A s.hs.n x.hs
  asn : SlOf encI 1 h s.asn.A s.asn.n x.asn
  hc : SlOf encC 2 h s.hc.A s.hc.n x.hc
  ac : SlOf encC 2 h s.ac.A s.ac.n x.ac
structure FAt (h : Ro) (s : Fsh) (x : Fct) : Prop where
  sh : ShAt h s x.sh
  cl : SlOf encI 1 h s.cl.A s.cl.n x.eClubs
  lo : SlOf encI 1 h s.lo.A s.lo.n x.lO
  void : x.void.length = 32
  lc : s.lo.n ≤ s.lo.c
theorem ShAt.le {h h' : Ro} {s : Fsh} {x : FSheet} (a : ShAt h s x) (hl : Le h h') : ShAt h' s x:=⟨a.hs.le hl,a.asn.le hl,a.hc.le hl,a.ac.le hl⟩
theorem FAt.le {h h' : Ro} {s : Fsh} {x : Fct} (a : FAt h s x) (hl : Le h h') : FAt h' s x:=⟨a.sh.le hl,a.cl.le hl,a.lo.le hl,a.void,a.lc⟩
theorem NameOk.len {s : List UInt8} (a : NameOk s) : s.length ≤ 24:=a.2.1
theorem ShAt.nil (h : Ro) : ShAt h fsh0 sheet0:=⟨SlOf.nil,SlOf.nil,SlOf.nil,SlOf.nil⟩
theorem FAt.nil (h : Ro) : FAt h fsh0 fct0:=⟨ShAt.nil h,SlOf.nil,SlOf.nil,rfl,Nat.le_refl _⟩
end Go.Hw
set_option linter.unusedVariables false
set_option linter.unusedSimpArgs false
set_option maxRecDepth 100000
set_option maxHeartbeats 1600000
namespace Go.Hw
open Go
attribute [local irreducible] GO GOl GDp Val Fn Res CellsAt ValE Blk OwnS MapA OwnPf Has
open Go.Proofs (Tryz.prog)
theorem below7_c (h : Ro) (n m : Int) : Val Tryz.prog 107 #[.int .i64 n,.int .i64 m] h (.bool (decide (Bel n m))):=by
  refine Val_intro (args:=[_,_]) ts_ok Go.Proofs.Tryz.func107 rfl rfl fun w0 X0 => ?_
  repeat' (first|apply GO_seq|apply GO_region|apply GOl_nil|(apply GOl_unwanted;exact rfl;exact rfl)|(apply GOl_pv;(iterate 3 exact rfl))|(apply GOl_split;exact rfl;exact rfl;all_goals (intro hc;try simp only [hcS,reduceCtorEq] at hc;try (exfalso;omega)))|(apply GO_retV1;(iterate 3 exact rfl)))
  all_goals (simp only [ltI_eq,Value.bool.injEq];first|(rw [decide_eq_decide];unfold Bel;omega)|(symm;rw [decide_eq_false_iff_not];unfold Bel;omega))
theorem club7_c (h : Ro) (n : Int) : Val Tryz.prog 86 #[.int .i64 n] h (.bool (decide (Bel n 192))):=by
  refine Val_intro (args:=[_]) ts_ok Go.Proofs.Tryz.func86 rfl rfl fun w0 X0 => ?_
  repeat' (first|apply GO_seq|apply GO_region|apply GOl_nil|(apply GOl_pv;(iterate 3 exact rfl))|(apply GOl_to;(iterate 3 exact rfl);(first|(apply OpTo_val;exact rfl;exact has107;exact below7_c _ _ _;skip)))|(apply GO_retV1;(iterate 3 exact rfl)))
  all_goals rfl
theorem contest7_c (h : Ro) (n m : Int) : Val Tryz.prog 85 #[.int .i64 n,.int .i64 m] h (.bool (decide (Bel n 64 ∧ Bel m 16))):=by
  refine Val_intro (args:=[_,_]) ts_ok Go.Proofs.Tryz.func85 rfl rfl fun w0 X0 => ?_
  repeat' (first|apply GO_seq|apply GO_region|apply GOl_nil|(apply GOl_unwanted;exact rfl;exact rfl)|(apply GOl_pv;(iterate 3 exact rfl))|(apply GOl_to;(iterate 3 exact rfl);(first|(apply OpTo_val;exact rfl;exact has107;exact below7_c _ _ _;skip)))|(apply GOl_split;exact rfl;exact rfl;all_goals (intro hc;try simp only [hcS,reduceCtorEq] at hc;try (exfalso;omega)))|(apply GO_retV1;(iterate 3 exact rfl)))
  all_goals (simp only [Value.bool.injEq];first|(rw [decide_eq_decide];simp [*];done)|(symm;rw [decide_eq_false_iff_not];simp [*];done))
theorem game7_c (h : Ro) (g : FGame) : Val Tryz.prog 60 #[gameV g] h (.int .i64 (if GameOk g then 0 else 70)):=by
  refine Val_intro (args:=[_]) ts_ok Go.Proofs.Tryz.func60 rfl rfl fun w0 X0 => ?_
  repeat' (first|apply GO_seq|apply GO_skip|apply GO_region|apply GOl_nil|(apply GOl_unwanted;exact rfl;exact rfl)|(apply GOl_pv;(iterate 3 exact rfl))|(apply GOl_load;exact rfl;exact Ld_blk rfl QM rfl;exact rfl;exact rfl)|(apply GOl_to;(iterate 3 exact rfl);(first|(apply OpTo_box;exact rfl;intro b;skip)|(apply OpTo_val;exact rfl;exact has85;exact contest7_c _ _ _;skip)|(apply OpTo_val;exact rfl;exact has86;exact club7_c _ _;skip)))|(apply GO_cond;exact rfl;all_goals (intro hc;try simp only [hcS,reduceCtorEq] at hc;try (exfalso;omega)))|(apply GOl_split;exact rfl;exact rfl;all_goals (intro hc;try simp only [hcS,reduceCtorEq] at hc;try (exfalso;omega)))|(apply GO_retV1;(iterate 3 exact rfl)))
  all_goals (first|(rw [if_neg (by unfold GameOk;simp_all)];done)|(rw [if_pos (by unfold GameOk;simp_all)];done))
end Go.Hw
set_option linter.unusedVariables false
set_option linter.unusedSimpArgs false
set_option maxRecDepth 100000
set_option maxHeartbeats 1600000
namespace Go.Hw
open Go
attribute [local irreducible] GO GOl GDp Val Fn Res CellsAt ValE Blk OwnS MapA OwnPf Has
open Go.Proofs (Tryz.prog)
theorem dec_of {b : Bool} {p : Prop} {inst : Decidable p} (h : b = true ↔ p) : b = decide p:=by
  rw [Bool.eq_iff_iff,decide_eq_true_eq];exact h
theorem dec_ofV {b : Bool} {p : Prop} {inst : Decidable p} (h : b = true ↔ p) : Value.bool b = Value.bool (decide p):=by
  rw [dec_of h]
def idx7 {α : Type} (p : α → Bool) : List α → Nat → Int
  | [],_ => -1
  | x :: r,k => if p x then k else idx7 p r (k + 1)
theorem idx7_nonneg {α : Type} (p : α → Bool) : ∀ (l : List α) (k : Nat),0 ≤ idx7 p l k ↔ l.any p = true
  | [],k => by simp [idx7]
  | a :: r,k => by
    have:=idx7_nonneg p r (k + 1)
    by_cases h : p a
    · simp [idx7,h]
    · simp [idx7,h,this]
theorem drop7 {α : Type} (d : α) {xs : List α} {k n : Nat} (hlen : xs.length = n) (hk : k < n) : xs.drop k = xs.getD k d :: xs.drop (k + 1):=by
  rw [List.drop_eq_getElem_cons (by omega)];simp [List.getD,List.getElem?_eq_getElem (show k < xs.length by omega)]
theorem take7 {α : Type} (d : α) {xs : List α} {k n : Nat} (hlen : xs.length = n) (hk : k < n) : xs.take (k + 1) = xs.take k ++ [xs.getD k d]:=by
  rw [List.take_add_one];simp [List.getD,List.getElem?_eq_getElem (show k < xs.length by omega)]
theorem mem7 {α : Type} (d : α) {xs : List α} {k : Nat} (hk : k < xs.length) : xs.getD k d ∈ xs:=by
  simp [List.getD,List.getElem?_eq_getElem hk]
theorem idxFI_c (h : Ro) (A : Option Addr) (n c : Nat) (l : List Int) (hx : SlOf encI 1 h A n l) (hn : n ≤ 9223372036854775807) (f : FuncId) (fs cs : List Value) (p : Int → Bool) (hh : Has Tryz.prog f)
    (hf : ∀ x ∈ l,Val Tryz.prog f (fs ++ [Value.int .i64 x] ++ cs).toArray h (.bool (p x))) :
    Val Tryz.prog 92 #[.slice A n c,.func (.func f) fs.toArray cs.toArray] h (.int .i64 (idx7 p l 0)):=by
  refine Val_intro (args:=[_,_]) ts_ok Go.Proofs.Tryz.func92 rfl rfl fun w0 X0 => ?_
  have hlen:=hx.len
  repeat' (first|apply GO_seq|apply GO_block|apply GO_region|apply GOl_nil|(apply GOl_pv;(iterate 3 exact rfl)))
  refine GO_loopT (X:=Nat) (fun k => k ≤ n ∧ idx7 p (l.drop k) k = idx7 p l 0) (fun k => n - k) (fun k => [(8,.int .i64 k),(7,.int .i64 n),(0,.slice A n c),(1,.func (.func f) fs.toArray cs.toArray)]) (fun _ => []) (fun _ => h) 0 ⟨by omega,rfl⟩ QS QT rfl ?_
  rintro k ⟨hk,hI⟩ ih
  by_cases hkn : k < n
  · have a1:=hx.addrD hkn
    have c1:=hx.cellsD 0 hkn
    have hd:=drop7 0 hlen hkn
    have hv:=hf _ (mem7 0 (show k < l.length by omega))
    generalize l.getD k 0 = x at *
    repeat' (first|apply GO_seq|apply GO_skip|apply GO_inBlock|apply GO_block|apply GO_region|apply GOl_nil|(apply GOl_add;(iterate 3 exact rfl);omega;exact rfl;exact rfl)|(apply GOl_pv;(iterate 3 exact rfl))|(apply GOl_ov;exact rfl;exact rfl;(first|(apply OV_idxS (j:=k);(iterate 5 exact rfl);exact a1;(with_reducible exact rfl);omega)|(apply OV_load;exact rfl;exact Lv_ro rfl c1 rfl));exact QA)|(apply GOl_to;(iterate 3 exact rfl);(first|(apply OpTo_valF (f:=f) (fs:=fs) (cs:=cs);exact rfl;exact rfl;exact hh;exact hv;skip)))|(apply GO_cond;exact rfl;all_goals (intro hc;try simp only [hcS,reduceCtorEq] at hc;try (exfalso;omega)))|(apply GO_retV1;(iterate 3 exact rfl)))
    · rw [← hI,hd,idx7,if_pos hc]
    · have h3:=ih (k + 1) ⟨by omega,by rw [← hI,hd,idx7,if_neg (by simp [hc])]⟩ (by omega)
      refine GO_fit QS QT (h3)
  · repeat' (first|apply GO_seq|apply GO_region|apply GOl_nil|(apply GO_exit;exact rfl)|(apply GOl_pv;(iterate 3 exact rfl))|(apply GO_cond;exact rfl;all_goals (intro hc;try simp only [hcS,reduceCtorEq] at hc;try (exfalso;omega)))|(apply GO_retV1;(iterate 3 exact rfl)))
    rw [← hI,show k = l.length by omega,List.drop_length];rfl
theorem conFI_c (h : Ro) (A : Option Addr) (n c : Nat) (l : List Int) (hx : SlOf encI 1 h A n l) (hn : n ≤ 9223372036854775807) (f : FuncId) (fs cs : List Value) (p : Int → Bool) (hh : Has Tryz.prog f)
    (hf : ∀ x ∈ l,Val Tryz.prog f (fs ++ [Value.int .i64 x] ++ cs).toArray h (.bool (p x))) :
    Val Tryz.prog 68 #[.slice A n c,.func (.func f) fs.toArray cs.toArray] h (.bool (l.any p)):=by
  refine Val_intro (args:=[_,_]) ts_ok Go.Proofs.Tryz.func68 rfl rfl fun w0 X0 => ?_
  repeat' (first|apply GO_seq|apply GO_region|apply GOl_nil|(apply GOl_pv;(iterate 3 exact rfl))|(apply GOl_to;(iterate 3 exact rfl);(first|(apply OpTo_val;exact rfl;exact has92;exact idxFI_c _ _ _ _ _ hx hn f fs cs p hh hf;skip)))|(apply GO_retV1;(iterate 3 exact rfl)))
  rw [leI_eq];congr 1;rw [Bool.eq_iff_iff,decide_eq_true_eq];exact idx7_nonneg _ _ _
end Go.Hw
set_option linter.unusedVariables false
set_option linter.unusedSimpArgs false
set_option maxRecDepth 100000
set_option maxHeartbeats 4000000
namespace Go.Hw
open Go
attribute [local irreducible] GO GOl GDp Val Fn Res CellsAt ValE Blk OwnS MapA OwnPf Has
open Go.Proofs (Tryz.prog)
end Go.Hw
set_option linter.unusedVariables false
set_option linter.unusedSimpArgs false
set_option maxRecDepth 100000
set_option maxHeartbeats 4000000
namespace Go.Hw
open Go
attribute [local irreducible] GO GOl GDp Val Fn Res CellsAt ValE Blk OwnS MapA OwnPf Has
open Go.Proofs (Tryz.prog)
end Go.Hw
set_option linter.unusedVariables false
set_option linter.unusedSimpArgs false
set_option maxRecDepth 100000
set_option maxHeartbeats 4000000
namespace Go.Hw
open Go
attribute [local irreducible] GO GOl GDp Val Fn Res CellsAt ValE Blk OwnS MapA OwnPf Has
open Go.Proofs (Tryz.prog)
instance (a b : Int) : Decidable (DaysOk a b):=by unfold DaysOk;infer_instance
end Go.Hw

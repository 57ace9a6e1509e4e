import Derived.Test.YtajmniiiahhfaaaGreatDoorUE18b
set_option linter.unusedVariables false
set_option linter.unusedSimpArgs false
set_option maxRecDepth 100000
set_option maxHeartbeats 8000000
namespace Go.Hw
open Go
attribute [local irreducible] GO GOl GDp Val Fn Res CellsAt ValE Blk OwnS MapA OwnPf Has Yl idF
open Go.Proofs (Tryz.prog)
theorem new_ok {l : List Fct} (h32 : In32 l) (hk : ∀ f ∈ l,FctOk f) (hn : l.length ≤ 65536) : newL l = (canonL l,0):=by
  have:=canonL_len h32
  unfold newL;rw [if_pos hk,lim1 _ (by omega)]
def LedIs (h : Ro) (A : Option Addr) (k c : Nat) (l : List (Fsh × Fct)) (L : List Fct) : Prop:=k ≤ c ∧ LedAt h A k l ∧ fcs l = L
theorem LedIs.le {h h' : Ro} {A : Option Addr} {k c : Nat} {l : List (Fsh × Fct)} {L : List Fct} (a : LedIs h A k c l L) (hl : Le h h') : LedIs h' A k c l L:=⟨a.1,a.2.1.le hl,a.2.2⟩
theorem same8_t (h : Ro) {A B : Option Addr} {n c m d : Nat} {l r : List (Fsh × Fct)} {L : List Fct} (hx : LedIs h A n c l L) (hy : LedIs h B m d r L) : Val Tryz.prog 34 #[ledV A n c,ledV B m d] h (.bool true):=by
  have:=same8_c h A n c l hx.2.1.facts B m d r hy.2.1.facts
  rwa [decide_eq_true (hx.2.2.trans hy.2.2.symm)] at this
structure ArrX where
  i : Nat
  T : List Fct
  R : List (Fsh × Fct)
  nr : Nat
  A : Option Addr
  k : Nat
  c : Nat
  lx : List (Fsh × Fct)
  B : Option Addr
  d : Nat
  h : Ro
structure ArrI (h1 : Ro) (n : Nat) (l : List (Fsh × Fct)) (x : ArrX) : Prop where
  le : Le h1 x.h
  cnt : x.T.length + x.nr = n
  at_ : x.i = x.T.length
  led : LedIs x.h x.A x.k x.c x.lx (canonL x.T)
  row : SlOf encF82 82 x.h x.B x.nr x.R
  cap : x.nr ≤ x.d
  sub : ∀ p ∈ x.R,p ∈ l
  tsub : ∀ f ∈ x.T,f ∈ fcs l
  all : ∀ f ∈ fcs l,f ∈ x.T ∨ f ∈ fcs x.R
theorem LedIn.part {h h' : Ro} {A B : Option Addr} {n m c : Nat} {l r : List (Fsh × Fct)} (a : LedIn h A n c l) (hl : Le h h') (hr : SlOf encF82 82 h' B m r) (hs : ∀ p ∈ r,p ∈ l) (hm : m ≤ 1000000) : FactsAt h' B m r :=
  ⟨hr,fun p hp => ⟨(a.fat p (hs p hp)).1.le hl,(a.fat p (hs p hp)).2⟩,hm⟩
theorem fcs_sub {l r : List (Fsh × Fct)} (hs : ∀ p ∈ r,p ∈ l) : ∀ f ∈ fcs r,f ∈ fcs l:=fun f hf => by
  obtain ⟨p,hp,rfl⟩:=List.mem_map.1 hf
  exact List.mem_map.2 ⟨p,hs p hp,rfl⟩
end Go.Hw

import Derived.Test.YtekcphgpmihmlabGreatDoorSB
import Derived.Test.YtekcphgpmihmlabGreatDoorHB
/-
  The law SheetsOrder, walked.
-/
set_option linter.unusedVariables false
set_option linter.unusedSimpArgs false
set_option maxRecDepth 100000
set_option maxHeartbeats 4000000
namespace Go.Hw
open Go
attribute [local irreducible] GO GOl GDp Val Fn Res CellsAt ValE Blk OwnS MapA OwnPf Has Yl RngA
open Go.Proofs (Tryz.prog)

theorem FSm_of {h : Ro} {s : Fsh} {f : Fct} (hf : FAt h s f) (hs : SmallS s f) : FSm f := by
  have h1 := hf.sh.hs.len; have h2 := hf.sh.as.len; have h3 := hf.sh.hc.len; have h4 := hf.sh.ac.len; have h5 := hf.cl.len; have h6 := hf.lo.len
  unfold SmallS at hs
  exact ⟨⟨by omega, by omega, by omega, by omega⟩, by omega, by omega, by omega⟩
theorem factsOf {h : Ro} {A : Option Addr} {n : Nat} {l : List (Fsh × Fct)} (hx : SlOf encF82 82 h A n l) (hf : ∀ p ∈ l, FAt h p.1 p.2) (hs : ∀ p ∈ l, SmallS p.1 p.2) (hn : n ≤ 1000000) : FactsAt h A n l :=
  ⟨hx, fun p hp => ⟨hf p hp, FSm_of (hf p hp) (hs p hp)⟩, hn⟩
theorem FactsAt.sub {h h' : Ro} {A B : Option Addr} {n m : Nat} {l r : List (Fsh × Fct)} (hx : FactsAt h A n l) (hl : Le h h') (hr : SlOf encF82 82 h' B m r) (hs : ∀ p ∈ r, p ∈ l) (hm : m ≤ 1000000) : FactsAt h' B m r :=
  ⟨hr, fun p hp => ⟨(hx.fat p (hs p hp)).1.le hl, (hx.fat p (hs p hp)).2⟩, hm⟩
open Classical in
/-- The valid sheets of a game. -/
noncomputable def ownL (g : FGame) (l : List (Fsh × Fct)) : List (Fsh × Fct) := (l.filter fun p => decide (FctOk p.2 ∧ p.2.kind = 3 ∧ p.2.sh.g = g)).reverse
open Classical in
theorem ownL_mem {g : FGame} {l : List (Fsh × Fct)} {p : Fsh × Fct} : p ∈ ownL g l ↔ p ∈ l ∧ FctOk p.2 ∧ p.2.kind = 3 ∧ p.2.sh.g = g := by
  unfold ownL; rw [List.mem_reverse, List.mem_filter, decide_eq_true_eq]
open Classical in
theorem ownL_yes {g : FGame} {l : List (Fsh × Fct)} {p : Fsh × Fct} (h : FctOk p.2 ∧ p.2.kind = 3 ∧ p.2.sh.g = g) : ownL g (p :: l) = ownL g l ++ [p] := by
  unfold ownL; rw [List.filter_cons, if_pos (by rw [decide_eq_true_eq]; exact h), List.reverse_cons]
open Classical in
theorem ownL_no {g : FGame} {l : List (Fsh × Fct)} {p : Fsh × Fct} (h : ¬ (FctOk p.2 ∧ p.2.kind = 3 ∧ p.2.sh.g = g)) : ownL g (p :: l) = ownL g l := by
  unfold ownL; rw [List.filter_cons, if_neg (by rw [decide_eq_true_eq]; exact h)]
theorem cont_mem {l : List (Fsh × Fct)} {f : Fct} : f ∈ cont l ↔ ∃ s, (s, f) ∈ l := by
  unfold cont
  rw [List.mem_map]
  exact ⟨fun ⟨p, h, e⟩ => ⟨p.1, by rw [← e]; exact h⟩, fun ⟨s, h⟩ => ⟨(s, f), h, rfl⟩⟩
theorem scoreF_ext {a b : List Fct} {g : FGame} (ha : ∀ f ∈ a, f.void.length = 32) (hb : ∀ f ∈ b, f.void.length = 32) (h : ∀ x, FctOk x → x.kind = 3 → x.sh.g = g → (x ∈ a ↔ x ∈ b)) : scoreF a g = scoreF b g := by
  unfold scoreF
  rw [bestF_ext ha hb fun x ho => h x ho.2.1 ho.1 ho.2.2.1, bestF_ext ha hb fun x ho => h x ho.2.1 ho.1 ho.2.2.1]
theorem scoreF_zero {l : List Fct} {g : FGame} (h : ∀ f ∈ l, ¬ (FctOk f ∧ f.kind = 3 ∧ f.sh.g = g)) (hv : ∀ f ∈ l, f.void.length = 32) : (scoreF l g).kind = 0 := by
  unfold scoreF
  rw [(bestF_none hv).2 fun f hf ho => h f hf ⟨ho.2.1, ho.1, ho.2.2.1⟩, (bestF_none hv).2 fun f hf ho => h f hf ⟨ho.2.1, ho.1, ho.2.2.1⟩]
  rfl

theorem disputesL_len {h : Ro} {A : Option Addr} {n : Nat} {l : List (Fsh × Fct)} (hx : FactsAt h A n l) : (disputesL l).length ≤ 1000000000 := by
  have h1 := pairsL_len hx
  have h2 : (disputesL l).length ≤ (pairsL l).length := by
    unfold disputesL
    rw [sortG_len]
    unfold keysOf
    rw [List.length_map]
    exact List.length_filter_le _ _
  omega

end Go.Hw

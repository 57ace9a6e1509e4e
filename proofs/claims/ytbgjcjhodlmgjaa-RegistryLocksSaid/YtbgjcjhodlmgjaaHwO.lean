/-
  Hw, part O: append, from memory that is owned or only read; what an owned slice's value is.
-/
import Derived.Test.YtbgjcjhodlmgjaaHwN
set_option linter.unusedVariables false
namespace Go.Hw
open Go

section
variable {C : Ctx} {ds : List Deferred} {l : Sl} {Es : List Asn} {h : Ro} {K : List Item} {G : Value → List Asn → Ro → Prop}
  {d : Tmp} {ty : TypeId} {pos : String} {aft : Array Edge} {gd : Option (Nat × Bool)}

/-- An owned slice's value is a slice. -/
theorem GO_openS {e sz : Nat} {v : Value} {n : Nat} {xs : List Value} (hm : OwnS e sz v n xs ∈ Es) (g : ∀ A c, v = .slice A n c → GO C ds l Es h K) : GO C ds l Es h K := fun a w s => by
  obtain ⟨D, h1, hr⟩ := s.hp.get hm
  rcases hr with ⟨h2, h3, _⟩ | ⟨b, cap, cur, h2, _⟩
  · exact g none 0 (by rw [h2, h3]) a w s
  · exact g _ _ h2 a w s

theorem OpTo_appendB {x y : Operand} {t e e' : TypeId} {v : Value} {n m c b : Nat} {xs cs : List Value} {T E : Ty} {Es' : Value → List Asn} (hT : tyOf t C.ts = some T) (hTd : T.desc = .slice e) (hE : tyOf e C.ts = some E)
    (hz : E.zero.cells.size = E.size) (hsz : Nat.blt 0 E.size = true)
    (hx : evl l x = some v) (hy : evl l y = some (.slice (some ⟨b, 0, none⟩) m c)) (hm : Blk b e' cs ∈ Es) (hR : ∀ v', Repl Es (OwnS e E.size v n xs) (OwnS e E.size v' (n + m) (xs ++ cs)) (Es' v'))
    (hnl : Nat.beq cs.length (m * E.size) = true) (h1 : allOne cs = true) (h63 : n + m ≤ 1000000000) (hby : Nat.ble E.bytes 100000 = true)
    (g : ∀ v', G v' (Es' v') h) : OpTo C l Es h ⟨some d, .call ⟨.builtin .append, #[x, y], #[t, t]⟩, ty, pos, aft, gd⟩ G := by
  have hb := Nat.le_of_ble_eq_true hby
  refine OpTo_append hT hTd hE hz (by simpa [Nat.blt_eq] using hsz) hx hy hR (Nat.eq_of_beq_eq_true hnl) (fun w hp j u hj => ?_) (allOne_ok h1) (by unfold maxLen; omega) ?_ (fun v' _ => g v')
  · have := hp.blk hm
    rw [add_off]
    simp only [World.cell?, this]
    simpa using hj
  · calc (n + m) * E.bytes ≤ 1000000000 * 100000 := Nat.mul_le_mul h63 hb
      _ ≤ 140737488355328 := by decide

theorem OpTo_appendR {x y : Operand} {t e : TypeId} {v : Value} {n m c : Nat} {xs cs : List Value} {ad : Addr} {T E : Ty} {Es' : Value → List Asn} (hT : tyOf t C.ts = some T) (hTd : T.desc = .slice e) (hE : tyOf e C.ts = some E)
    (hz : E.zero.cells.size = E.size) (hsz : Nat.blt 0 E.size = true)
    (hx : evl l x = some v) (hy : evl l y = some (.slice (some ad) m c)) (hm : CellsAt h ad cs) (hR : ∀ v', Repl Es (OwnS e E.size v n xs) (OwnS e E.size v' (n + m) (xs ++ cs)) (Es' v'))
    (hnl : cs.length = m * E.size) (h1 : ∀ u ∈ cs, u.oneCell' = true) (h63 : n + m ≤ 1000000000) (hby : Nat.ble E.bytes 100000 = true)
    (g : ∀ v', G v' (Es' v') h) : OpTo C l Es h ⟨some d, .call ⟨.builtin .append, #[x, y], #[t, t]⟩, ty, pos, aft, gd⟩ G := by
  have hb := Nat.le_of_ble_eq_true hby
  refine OpTo_append hT hTd hE hz (by simpa [Nat.blt_eq] using hsz) hx hy hR hnl (fun w hp j u hj => ?_) h1 (by unfold maxLen; omega) ?_ (fun v' _ => g v')
  · rw [cell?_mem]; exact cellR_le hp.ro (hm j u hj)
  · calc (n + m) * E.bytes ≤ 1000000000 * 100000 := Nat.mul_le_mul h63 hb
      _ ≤ 140737488355328 := by decide
end
end Go.Hw

/-
  Hw, part S: append whose outcome is only read from then on.
-/
import Derived.Test.YtbgjcjhodlmgjaaHwR
set_option linter.unusedVariables false
namespace Go.Hw
open Go

section
variable {C : Ctx} {ds : List Deferred} {l : Sl} {Es Fs : List Asn} {h : Ro} {K : List Item} {G : Value → List Asn → Ro → Prop} {ty : TypeId} {pos : String} {aft : Array Edge} {gd : Option (Nat × Bool)} {d : Tmp} {dst : Option Tmp}

theorem OpTo_appendSR {α : Type} {enc : α → List Value} {x y : Operand} {t e : TypeId} {v : Value} {n m c : Nat} {xs ys : List α} {A : Option Addr} {T E : Ty} (hT : tyOf t C.ts = some T) (hTd : T.desc = .slice e) (hE : tyOf e C.ts = some E)
    (hz : E.zero.cells.size = E.size) (hsz : Nat.blt 0 E.size = true) (hx : evl l x = some v) (hy : evl l y = some (.slice A m c)) (hm : SlOf enc E.size h A m ys) (hl : ∀ x, (enc x).length = E.size) (h1 : ∀ x, ∀ u ∈ enc x, u.oneCell' = true)
    (hTk : Take Es (OwnS e E.size v n (xs.flatMap enc)) Fs) (hn : xs.length = n) (h63 : n + m ≤ 1000000000) (hby : Nat.ble E.bytes 100000 = true)
    (g : ∀ A' c' h', Le h h' → n + m ≤ c' → SlOf enc E.size h' A' (n + m) (xs ++ ys) → G (.slice A' (n + m) c') Fs h') : OpTo C l Es h ⟨some d, .call ⟨.builtin .append, #[x, y], #[t, t]⟩, ty, pos, aft, gd⟩ G :=
  OpTo_relC (e := e) (n := n + m) (xs := xs ++ ys) hl (by rw [List.length_append, hn, hm.len])
    (OpTo_front hTk (OpTo_appendS (Es' := fun v' => OwnS e E.size v' (n + m) ((xs ++ ys).flatMap enc) :: Fs) hT hTd hE hz hsz hx hy hm hl h1 (fun v' => .here) h63 hby fun A' c' => ⟨Fs, rfl, fun A c h'' hle hc hs => g A c h'' hle hc hs⟩))

theorem OpTo_appendFR {α : Type} {enc : α → List Value} {x y : Operand} {t e : TypeId} {n m c cx : Nat} {xs ys : List α} {A B : Option Addr} {T E : Ty} (hT : tyOf t C.ts = some T) (hTd : T.desc = .slice e) (hE : tyOf e C.ts = some E)
    (hz : E.zero.cells.size = E.size) (hsz : Nat.blt 0 E.size = true) (hx : evl l x = some (.slice A n cx)) (hy : evl l y = some (.slice B m c)) (hxs : SlOf enc E.size h A n xs) (hys : SlOf enc E.size h B m ys) (hcx : cx = n) (hm : 0 < m)
    (hl : ∀ x, (enc x).length = E.size) (h63 : n + m ≤ 1000000000) (hby : Nat.ble E.bytes 100000 = true)
    (g : ∀ A' c' h', Le h h' → n + m ≤ c' → SlOf enc E.size h' A' (n + m) (xs ++ ys) → G (.slice A' (n + m) c') Es h') : OpTo C l Es h ⟨some d, .call ⟨.builtin .append, #[x, y], #[t, t]⟩, ty, pos, aft, gd⟩ G :=
  OpTo_relC (e := e) (n := n + m) (xs := xs ++ ys) hl (by rw [List.length_append, hxs.len, hys.len])
    (OpTo_appendF hT hTd hE hz hsz hx hy hxs hys hcx hm hl h63 hby fun A' c' => ⟨Es, rfl, fun A c h'' hle hc hs => g A c h'' hle hc hs⟩)

/-- A slice literal that is only read, as a list. -/
theorem OpTo_buildSliceS {α : Type} {enc : α → List Value} {t e n : Nat} {parts : Array (Nat × Operand)} {ps : List (Nat × Value)} {T E : Ty} {cs : List Value} (xs : List α) (hT : tyOf t C.ts = some T) (hTd : T.desc = .slice e) (hE : tyOf e C.ts = some E)
    (hz : partL E.zero ≠ []) (hzl : (partL E.zero).length = E.size) (hn : Nat.ble (n * E.size) 16777216 = true) (hp : evlP l parts.toList = some ps) (hc : fillL (fun i => some (i * E.size, E.size)) ps (repl (partL E.zero) n) = some cs)
    (hl : ∀ x, (enc x).length = E.size) (hcs : cs = xs.flatMap enc) (hxn : xs.length = n)
    (g : ∀ b h', Le h h' → SlOf enc E.size h' (some ⟨b, 0, none⟩) n xs → G (.slice (some ⟨b, 0, none⟩) n n) Es h') : OpTo C l Es h ⟨some d, .buildSlice t n parts, ty, pos, aft, gd⟩ G :=
  OpTo_buildSliceR hT hTd hE hz hzl hn hp hc fun b h' hle hcs' => g b h' hle (SlOf.of_flat hl hxn (by rw [← hcs]; exact hcs'))
end
end Go.Hw

/-
  Hw, part K: maps of the call's own, slices that are only read.
-/
import Derived.Test.YtbgjcjhodlmgjaaHwJ
import Derived.Maps.RangeRun
set_option linter.unusedVariables false
namespace Go.Hw
open Go

/-! ### Slices that are only read -/
def encI (n : Int) : List Value := [.int .i64 n]
/-- A slice's n elements, from address A on, are xs. -/
structure SlOf {α : Type} (enc : α → List Value) (sz : Nat) (h : Ro) (A : Option Addr) (n : Nat) (xs : List α) : Prop where
  len : xs.length = n
  at_ : 0 < n → ∃ ad, A = some ad ∧ ∀ j x, xs[j]? = some x → CellsAt h (ad.add (j * sz)) (enc x)
section sl
variable {α : Type} {enc : α → List Value} {sz : Nat} {h : Ro} {A : Option Addr} {n : Nat} {xs : List α}
theorem SlOf.cells {ad : Addr} (s : SlOf enc sz h (some ad) n xs) (d : α) {k : Nat} (hk : k < n) : CellsAt h (ad.add (k * sz)) (enc (xs.getD k d)) := by
  obtain ⟨ad', e, hc⟩ := s.at_ (by omega)
  injection e with e; subst e
  exact hc k _ (by have := s.len; simp [List.getD, List.getElem?_eq_getElem (show k < xs.length by omega)])
theorem SlOf.addr (s : SlOf enc sz h A n xs) (hk : 0 < n) : ∃ ad, A = some ad := by
  obtain ⟨ad', e, hc⟩ := s.at_ hk
  exact ⟨ad', e⟩
theorem SlOf.le {h' : Ro} (s : SlOf enc sz h A n xs) (hl : Le h h') : SlOf enc sz h' A n xs :=
  ⟨s.len, fun hn => let ⟨ad, e, hc⟩ := s.at_ hn; ⟨ad, e, fun j x hx => (hc j x hx).le hl⟩⟩
theorem SlOf.nil : SlOf enc sz h A 0 [] := ⟨rfl, fun h => absurd h (by omega)⟩
end sl

/-! ### Maps -/
/-- A map of the call's own: its entries, in the order in which they lie. -/
def MapA {κ α : Type} (ek : κ → Value) (ev : α → Value) (b : Nat) (l : List (κ × α)) : Asn :=
  ⟨fun D m => D = [b] ∧ ∃ es clock, m b = some (.map es clock) ∧ es.toList.map (fun e => (e.key, e.val)) = l.map (fun p => (ek p.1, ev p.2)) ∧ (∀ x ∈ es.toList, x.born < clock) ∧ (es.toList.map (·.born)).Nodup,
   fun D m m' h ⟨hd, r⟩ => ⟨hd, by rw [← h b (by simp [hd])]; exact r⟩⟩

def lookA {κ α : Type} [DecidableEq κ] (x : κ) : List (κ × α) → Option α
  | [] => none
  | (y, a) :: r => if y = x then some a else lookA x r
def insA {κ α : Type} [DecidableEq κ] (x : κ) (a : α) : List (κ × α) → List (κ × α)
  | [] => [(x, a)]
  | (y, b) :: r => if y = x then (y, a) :: r else (y, b) :: insA x a r

section maps
variable {κ α : Type} [DecidableEq κ] {ek : κ → Value} {ev : α → Value} {P : Program} {k : TypeId} {d : TypeDesc}

theorem findNow_A (hk : ∀ x, MapKept.IsKey d (ek x)) (hi : ∀ x y, ek x = ek y → x = y) (x : κ) {es : List MapEntry} {l : List (κ × α)} (h : es.map (fun e => (e.key, e.val)) = l.map (fun p => (ek p.1, ev p.2))) :
    (Instr.findNow d (ek x) es 0 = some none ∧ lookA x l = none ∧ ∀ a, insA x a l = l ++ [(x, a)]) ∨
    ∃ j a e, Instr.findNow d (ek x) es 0 = some (some (j, ev a)) ∧ lookA x l = some a ∧ es[j]? = some e ∧ e.key = ek x ∧ ∀ b, insA x b l = l.set j (x, b) := by
  have hks : ∀ e ∈ es, MapKept.IsKey d e.key := fun e he => by
    have : (e.key, e.val) ∈ l.map (fun p => (ek p.1, ev p.2)) := h ▸ List.mem_map.2 ⟨e, he, rfl⟩
    obtain ⟨p, _, hp⟩ := List.mem_map.1 this
    injection hp with h1 _
    rw [← h1]; exact hk _
  have spec : ∀ (es : List MapEntry) (l : List (κ × α)), es.map (fun e => (e.key, e.val)) = l.map (fun p => (ek p.1, ev p.2)) →
      ((∀ e ∈ es, e.key ≠ ek x) → lookA x l = none ∧ ∀ a, insA x a l = l ++ [(x, a)]) := by
    intro es
    induction es with
    | nil => intro l h _; cases l with
      | nil => exact ⟨rfl, fun _ => rfl⟩
      | cons p l => cases h
    | cons e es ih =>
      intro l h hne
      cases l with
      | nil => cases h
      | cons p l =>
        simp only [List.map_cons, List.cons.injEq, Prod.mk.injEq] at h
        have hp : p.1 ≠ x := fun e' => hne e (.head _) (by rw [h.1.1, e'])
        obtain ⟨q1, q2⟩ := ih l h.2 (fun e' he' => hne e' (.tail _ he'))
        exact ⟨by simp [lookA, hp, q1], fun a => by simp [insA, hp, q2 a]⟩
  have spec2 : ∀ (es : List MapEntry) (l : List (κ × α)) (i j : Nat) (v : Value), (∀ e ∈ es, MapKept.IsKey d e.key) → es.map (fun e => (e.key, e.val)) = l.map (fun p => (ek p.1, ev p.2)) → Instr.findNow d (ek x) es i = some (some (j, v)) →
      ∃ a e, v = ev a ∧ lookA x l = some a ∧ i ≤ j ∧ es[j - i]? = some e ∧ e.key = ek x ∧ ∀ b, insA x b l = l.set (j - i) (x, b) := by
    intro es
    induction es with
    | nil => intro l i j v _ _ h; cases h
    | cons e es ih =>
      intro l i j v hks h hf
      cases l with
      | nil => cases h
      | cons p l =>
        simp only [List.map_cons, List.cons.injEq, Prod.mk.injEq] at h
        have hiff : Instr.sameNow d (ek x) e.key = some (decide (p.1 = x)) := by
          obtain ⟨r, hr, hri⟩ := MapKept.sameNow_of_keys (hk x) (hks e (.head _))
          rw [hr]
          rw [h.1.1] at hri
          have : r = decide (p.1 = x) := by
            by_cases hq : p.1 = x
            · rw [decide_eq_true hq]; exact hri.2 (by rw [hq])
            · rw [decide_eq_false hq]
              cases r with
              | false => rfl
              | true => exact absurd (hi _ _ (hri.1 rfl)).symm hq
          rw [this]
        unfold Instr.findNow at hf
        rw [hiff] at hf
        by_cases hq : p.1 = x
        · simp only [hq, decide_true, Option.some.injEq, Prod.mk.injEq] at hf
          refine ⟨p.2, e, by rw [← hf.2]; exact h.1.2, by simp [lookA, hq], by omega, by simp [← hf.1], by rw [h.1.1, hq], fun b => by simp [insA, hq, ← hf.1]⟩
        · simp only [hq, decide_false] at hf
          obtain ⟨a, e', h1, h2, h3, h4, h5, h6⟩ := ih l (i + 1) j v (fun e' he' => hks e' (.tail _ he')) h.2 hf
          have hj : j - i = (j - (i + 1)) + 1 := by omega
          refine ⟨a, e', h1, by simp [lookA, hq, h2], by omega, by rw [hj]; simpa using h4, h5, fun b => by rw [hj]; simp [insA, hq, h6 b]⟩
  rcases MapKept.findNow_spec (hk x) es 0 hks with ⟨h1, h2⟩ | ⟨j, e, h1, h2, h3⟩
  · exact .inl ⟨h1, spec es l h h2⟩
  · obtain ⟨a, e', q1, q2, q3, q4, q5, q6⟩ := spec2 es l 0 _ _ hks h h1
    simp only [Nat.sub_zero] at q4 q6
    exact .inr ⟨_, a, e', by rw [h1, q1], q2, q4, q5, q6⟩

/-- What a map operation needs of the key's type. -/
structure KeyT (P : Program) (k : TypeId) (ek : κ → Value) : Prop where
  plain : ∃ d, P.underlying k = some d ∧ ∀ x, MapKept.IsKey d (ek x)
  inj : ∀ x y, ek x = ek y → x = y

theorem KeyT.int {k : TypeId} {q : IntKind} (h : P.underlying k = some (.int q)) : KeyT P k (fun i : Int => .int q i) :=
  ⟨⟨_, h, fun x => rfl⟩, fun x y e => by injection e⟩

def lookV (c : Bool) (ev : α → Value) (z : Value) : Option α → Value
  | some a => if c then .tuple #[ev a, .bool true] else ev a
  | none => if c then .tuple #[z, .bool false] else z

theorem run_lookupA (K : KeyT P k ek) {t e : TypeId} (ht : P.underlying t = some (.map k e)) {z : Value} {w : World} (hz : (zeroValue e).run P w = .ok z w) {b : Nat} {l : List (κ × α)} (hb : (MapA ek ev b l).holds [b] (mem w)) (x : κ) (c : Bool) :
    (Instr.lookup t (.map (some b)) (ek x) c).run P w = .ok (lookV c ev z (lookA x l)) w := by
  obtain ⟨_, es, clock, hb, hes, hcl, hnd⟩ := hb
  have hb : w.heap[b]? = some (.map es clock) := hb
  obtain ⟨⟨d, hd, hk⟩, hi⟩ := K
  have hck := MapKept.run_checkKey (P := P) (w := w) hd (hk x) es.isEmpty 9999
  rcases findNow_A hk hi x hes with ⟨h1, h2, _⟩ | ⟨j, a, e0, h1, h2, _⟩
  · have hf := MapKept.run_findKey (w := w) hd h1
    simp only [Instr.lookup, Sem.run_bind, run_underlying ht, Result.andThen, MapKept.run_getObj_map hb, Sem.run_pure, hck, hf, hz, h2, lookV]
  · have hf := MapKept.run_findKey (w := w) hd h1
    simp only [Instr.lookup, Sem.run_bind, run_underlying ht, Result.andThen, MapKept.run_getObj_map hb, Sem.run_pure, hck, hf, h2, lookV]

theorem run_updateA (K : KeyT P k ek) {t e : TypeId} (ht : P.underlying t = some (.map k e)) {w : World} {b : Nat} {l : List (κ × α)} (hb : (MapA ek ev b l).holds [b] (mem w)) (x : κ) (a : α) :
    ∃ w', (Instr.mapUpdate t (.map (some b)) (ek x) (ev a)).run P w = .ok () w' ∧ (MapA ek ev b (insA x a l)).holds [b] (mem w') ∧ w'.os = w.os ∧ w'.tape = w.tape ∧ w'.output = w.output ∧ w'.heap.size = w.heap.size ∧ ∀ i, i ≠ b → w'.heap[i]? = w.heap[i]? := by
  obtain ⟨_, es, clock, hb, hes, hcl, hnd⟩ := hb
  have hb : w.heap[b]? = some (.map es clock) := hb
  obtain ⟨⟨d, hd, hk⟩, hi⟩ := K
  have hck := MapKept.run_checkKey (P := P) (w := w) hd (hk x) false 9999
  rcases findNow_A hk hi x hes with ⟨h1, h2, h3⟩ | ⟨j, a0, e0, h1, h2, h3, h4, h5⟩
  · have hf := MapKept.run_findKey (w := w) hd h1
    refine ⟨ChangeMaps.setBlock w b (.map (es.push ⟨ek x, ev a, clock⟩) (clock + 1)), ?_, ⟨rfl, _, _, ChangeMaps.heap_setBlock_same hb _, ?_, ?_, ?_⟩, rfl, rfl, rfl, by simp [ChangeMaps.setBlock], fun i hi => ChangeMaps.heap_setBlock_other hb _ hi⟩
    · simp [Instr.mapUpdate, run_underlying ht, MapKept.run_getObj_map hb, hck, hf, MapKept.run_setObj_map _ hb, Result.andThen, ChangeMaps.setBlock]
    · simp [h3, hes]
    · intro y hy
      simp only [Array.toList_push, List.mem_append, List.mem_singleton] at hy
      rcases hy with hy | rfl
      · exact Nat.lt_succ_of_lt (hcl y hy)
      · exact Nat.lt_succ_self _
    · simp only [Array.toList_push, List.map_append, List.map_cons, List.map_nil]
      refine List.nodup_append.2 ⟨hnd, by simp, ?_⟩
      intro p hp q hq
      simp only [List.mem_singleton] at hq
      subst hq
      obtain ⟨y, hy, rfl⟩ := List.mem_map.1 hp
      exact Nat.ne_of_lt (hcl y hy)
  · have hf := MapKept.run_findKey (w := w) hd h1
    have hst := MapKept.run_keyThatStays (P := P) (w := w) (hk x)
    have h3' : es[j]? = some e0 := by simpa using h3
    refine ⟨ChangeMaps.setBlock w b (.map (es.modify j fun e => { e with key := ek x, val := ev a }) clock), ?_, ⟨rfl, _, _, ChangeMaps.heap_setBlock_same hb _, ?_, ?_, ?_⟩, rfl, rfl, rfl, by simp [ChangeMaps.setBlock], fun i hi => ChangeMaps.heap_setBlock_other hb _ hi⟩
    · simp [Instr.mapUpdate, run_underlying ht, MapKept.run_getObj_map hb, hck, hf, h3', h4, hst, MapKept.run_setObj_map _ hb, Result.andThen, ChangeMaps.setBlock]
    · rw [h5 a]
      apply List.ext_getElem?
      intro i
      have hi := congrArg (fun q => q[i]?) hes
      simp only [List.getElem?_map, Array.getElem?_toList, Array.getElem?_modify, List.getElem?_set] at hi ⊢
      by_cases hij : j = i
      · subst hij
        rw [h3'] at hi ⊢
        cases hl : l[j]? with
        | none => rw [hl] at hi; cases hi
        | some p =>
          have : j < l.length := (List.getElem?_eq_some_iff.1 hl).1
          simp [this]
      · simp only [hij, if_false]; exact hi
    · intro y hy
      obtain ⟨i, hy⟩ := List.getElem?_of_mem hy
      simp only [Array.getElem?_toList, Array.getElem?_modify] at hy
      split at hy
      · cases hi : es[i]? with
        | none => rw [hi] at hy; cases hy
        | some e1 =>
          rw [hi] at hy; simp only [Option.map_some, Option.some.injEq] at hy
          rw [← hy]
          exact hcl e1 (Array.mem_toList_iff.2 (Array.mem_of_getElem? hi))
      · exact hcl y (Array.mem_toList_iff.2 (Array.mem_of_getElem? hy))
    · have : (es.modify j fun e => { e with key := ek x, val := ev a }).toList.map (·.born) = es.toList.map (·.born) := by
        apply List.ext_getElem?
        intro i
        simp only [List.getElem?_map, Array.getElem?_toList, Array.getElem?_modify]
        split
        · cases es[i]? <;> rfl
        · rfl
      rw [this]; exact hnd

variable {C : Ctx} {l : Sl} {Es : List Asn} {h : Ro} {G : Value → List Asn → Ro → Prop} {ty : TypeId} {pos : String} {aft : Array Edge} {gd : Option (Nat × Bool)}

omit [DecidableEq κ] in
theorem OpTo_makeMap {t : TypeId} {dst : Option Tmp} (ek : κ → Value) (ev : α → Value) (g : ∀ b, G (.map (some b)) (MapA ek ev b [] :: Es) h) : OpTo C l Es h ⟨dst, .makeMap t none, ty, pos, aft, gd⟩ G := fun a w hs hp =>
  .inl ⟨.map (some w.heap.size), _, _, h, by simp only [execOp]; rw [Sem.run_bind]; rfl, hp.alloc (.map #[] 0) (MapA ek ev w.heap.size []) (fun m hm => ⟨rfl, #[], 0, hm, rfl, by simp, by simp⟩), g _⟩

theorem OV_lookup {t e : TypeId} {x y : Operand} {b : Nat} {key : κ} {m : List (κ × α)} {c : Bool} {T E : Ty} {r : Option α} {dst : Option Tmp} (K : KeyT C.P k ek) (hT : tyOf t C.ts = some T) (hTd : T.desc = .map k e) (hE : tyOf e C.ts = some E)
    (hx : evl l x = some (.map (some b))) (hy : evl l y = some (ek key)) (hr : lookA key m = r) : OV C l [MapA ek ev b m] h ⟨dst, .lookup t x y c, ty, pos, aft, gd⟩ (lookV c ev E.zero r) :=
  ⟨rfl, fun a w hs hn hm => by
    obtain ⟨D, hD⟩ := hn _ (.head _)
    obtain ⟨D0, hu, hb0⟩ := C.ok.und hT
    rw [hTd] at hb0
    rw [blank_map hb0] at hu
    have hD' := hD
    rw [hD.1] at hD'
    have := run_lookupA K hu (C.ok.run_zero hE w) hD' key c
    rw [hr] at this
    simp only [execOp, hs.eval hx, hs.eval hy, Sem.run_bind, this, Result.andThen_ok, Sem.run_pure]⟩

theorem OpTo_mapUpdate {t e : TypeId} {x y v : Operand} {b : Nat} {key : κ} {u : α} {m : List (κ × α)} {T : Ty} {Es' : List Asn} {dst : Option Tmp} {val : Value} (K : KeyT C.P k ek) (hT : tyOf t C.ts = some T) (hTd : T.desc = .map k e)
    (hx : evl l x = some (.map (some b))) (hy : evl l y = some (ek key)) (hv : evl l v = some val) (hval : val = ev u) (hR : Repl Es (MapA ek ev b m) (MapA ek ev b (insA key u m)) Es') (g : G undef Es' h) :
    OpTo C l Es h ⟨dst, .mapUpdate t x y v, ty, pos, aft, gd⟩ G := fun a w hs hp => by
  subst hval
  obtain ⟨D0, hu, hb0⟩ := C.ok.und hT
  rw [hTd] at hb0
  rw [blank_map hb0] at hu
  obtain ⟨Ds, hown, hnod, hbd⟩ := hp.own
  obtain ⟨D, hA, hDn, hsub, _⟩ := hR.own hown hnod
  have hA' := hA
  rw [hA.1] at hA'
  obtain ⟨w', hrun, hA2, q1, q2, q3, q4, q5⟩ := run_updateA K hu hA' key u
  refine .inr (.inl ⟨w', Es', h, ?_, hp.repl hR q1 q2 q3 (by omega) fun D hA hDn hDl => ⟨D, ?_, hDn, fun b hb => ⟨.inl hb, by have := hDl b hb; omega⟩, fun i hi hni => q5 i (fun e => hni (by rw [hA.1, e]; simp))⟩, g⟩)
  · simp only [execOp, hs.eval hx, hs.eval hy, hs.eval hv, Sem.run_bind, hrun, Result.andThen_ok, Sem.run_pure]
  · have := hA.1; subst this; exact hA2
theorem OpTo_insert {t e : TypeId} {x y v : Operand} {b : Nat} {key : κ} {u : α} {m : List (κ × α)} {T : Ty} {Es' : List Asn} {dst : Option Tmp} {val : Value} (K : KeyT C.P k ek) (hT : tyOf t C.ts = some T) (hTd : T.desc = .map k e)
    (hx : evl l x = some (.map (some b))) (hy : evl l y = some (ek key)) (hv : evl l v = some val) (hval : val = ev u) (hR : Repl Es (MapA ek ev b m) (MapA ek ev b (insA key u m)) Es') (g : G undef Es' h) :
    OpTo C l Es h ⟨dst, .insert t x y v, ty, pos, aft, gd⟩ G :=
  (OpTo_mapUpdate K hT hTd hx hy hv hval hR g : OpTo C l Es h ⟨dst, .mapUpdate t x y v, ty, pos, aft, gd⟩ G)
end maps
end Go.Hw

/-
  Hw, part R: append of slices that are only read, slicing, slice literals of the call's own.
-/
import Derived.Test.YtbgjcjhodlmgjaaHwQ
set_option linter.unusedVariables false
namespace Go.Hw
open Go

theorem addr_add_add (a : Addr) (m n : Nat) : (a.add m).add n = a.add (m + n) := by
  unfold Addr.add; split <;> split <;> simp_all <;> omega

section sl
variable {α : Type} {enc : α → List Value} {sz : Nat} {h : Ro} {A : Option Addr} {n : Nat} {xs : List α}
theorem flatMap_len (hl : ∀ x, (enc x).length = sz) : ∀ (xs : List α), (xs.flatMap enc).length = xs.length * sz
  | [] => by simp
  | x :: r => by simp [hl x, flatMap_len hl r, Nat.add_mul, Nat.add_comm]
theorem flatMap_get (hl : ∀ x, (enc x).length = sz) : ∀ (xs : List α) (j : Nat) (u : Value), (xs.flatMap enc)[j]? = some u → ∃ x, xs[j / sz]? = some x ∧ (enc x)[j % sz]? = some u
  | [], j, u, e => by simp at e
  | x :: r, j, u, e => by
    rw [List.flatMap_cons] at e
    by_cases hj : j < sz
    · rw [List.getElem?_append_left (by rw [hl]; exact hj)] at e
      exact ⟨x, by rw [Nat.div_eq_of_lt hj]; rfl, by rw [Nat.mod_eq_of_lt hj]; exact e⟩
    · rw [List.getElem?_append_right (by rw [hl]; omega), hl] at e
      obtain ⟨y, h1, h2⟩ := flatMap_get hl r (j - sz) u e
      have hpos : 0 < sz := by
        rcases Nat.eq_zero_or_pos sz with h0 | h0
        · exfalso
          have h3 := hl y
          rw [h0, List.length_eq_zero_iff] at h3
          rw [h3] at h2; simp at h2
        · exact h0
      refine ⟨y, ?_, ?_⟩
      · rw [Nat.div_eq_sub_div hpos (by omega)]; simpa using h1
      · rw [Nat.mod_eq_sub_mod (by omega)]; exact h2
/-- A slice that is only read, its cells in a row. -/
theorem SlOf.flat {ad : Addr} (s : SlOf enc sz h (some ad) n xs) (hl : ∀ x, (enc x).length = sz) : CellsAt h ad (xs.flatMap enc) := by
  intro j u e
  obtain ⟨x, h1, h2⟩ := flatMap_get hl xs j u e
  have hlt : j / sz < xs.length := (List.getElem?_eq_some_iff.1 h1).1
  obtain ⟨ad', e', hc⟩ := s.at_ (by rw [← s.len]; exact Nat.lt_of_le_of_lt (Nat.zero_le _) hlt)
  injection e' with e'; subst e'
  have := hc _ x h1 _ u h2
  have e3 : (ad.add (j / sz * sz)).add (j % sz) = ad.add j := by
    rw [addr_add_add, Nat.div_add_mod']
  rw [e3] at this; exact this
theorem SlOf.of_flat {ad : Addr} (hl : ∀ x, (enc x).length = sz) (hn : xs.length = n) (hc : CellsAt h ad (xs.flatMap enc)) : SlOf enc sz h (some ad) n xs := by
  refine ⟨hn, fun _ => ⟨ad, rfl, fun j x hx i u hu => ?_⟩⟩
  have hi : i < sz := by have := (List.getElem?_eq_some_iff.1 hu).1; rw [hl] at this; exact this
  have key : ∀ (xs : List α) (j : Nat), xs[j]? = some x → (xs.flatMap enc)[j * sz + i]? = some u := by
    intro xs
    induction xs with
    | nil => intro j e; simp at e
    | cons y r ih =>
      intro j e
      rw [List.flatMap_cons]
      cases j with
      | zero =>
        simp only [List.getElem?_cons_zero, Option.some.injEq] at e
        subst e
        rw [Nat.zero_mul, Nat.zero_add, List.getElem?_append_left (by rw [hl]; exact hi)]; exact hu
      | succ j =>
        rw [List.getElem?_append_right (by rw [hl, Nat.add_mul, Nat.one_mul]; omega), hl, show (j + 1) * sz + i - sz = j * sz + i by rw [Nat.add_mul, Nat.one_mul]; omega]
        exact ih j (by simpa using e)
  have e3 : (ad.add (j * sz)).add i = ad.add (j * sz + i) := addr_add_add _ _ _
  rw [e3]; exact hc _ u (key xs j hx)
/-- The part of a slice from l up to k. -/
theorem SlOf.part (s : SlOf enc sz h A n xs) {l k : Nat} (hlk : l ≤ k) (hk : k ≤ n) (A' : Option Addr) (hA : l < k → A' = A.map (·.add (l * sz))) : SlOf enc sz h A' (k - l) ((xs.take k).drop l) := by
  have hlen := s.len
  refine ⟨by simp; omega, fun hpos => ?_⟩
  obtain ⟨ad, rfl, hc⟩ := s.at_ (by omega)
  refine ⟨ad.add (l * sz), hA (by omega), fun j x hx => ?_⟩
  rw [List.getElem?_drop, List.getElem?_take] at hx
  split at hx
  · have e3 : (ad.add (l * sz)).add (j * sz) = ad.add ((l + j) * sz) := by rw [addr_add_add, Nat.add_mul]
    rw [e3]; exact hc _ x hx
  · cases hx
theorem OwnS_free' {e : TypeId} {v : Value} (hl : ∀ x, (enc x).length = sz) {D : List Nat} (hn : xs.length = n) (H : (OwnS e sz v n (xs.flatMap enc)).holds D h) :
    ∃ A c, v = .slice A n c ∧ n ≤ c ∧ SlOf enc sz h A n xs := by
  obtain ⟨A, c, e1, e2⟩ := OwnS_free hl hn H
  refine ⟨A, c, e1, ?_, e2⟩
  rcases H.2 with ⟨h2, h3, _⟩ | ⟨b, cap, cur, h2, _, _, h4, _⟩
  · omega
  · rw [h2] at e1; injection e1 with _ _ e3; omega
end sl

section
variable {C : Ctx} {ds : List Deferred} {l : Sl} {Es : List Asn} {h : Ro} {K : List Item} {G : Value → List Asn → Ro → Prop} {ty : TypeId} {pos : String} {aft : Array Edge} {gd : Option (Nat × Bool)} {d : Tmp} {dst : Option Tmp}

theorem GO_relC {α : Type} {enc : α → List Value} {e sz : Nat} {v : Value} {n : Nat} {xs : List α} {Es' : List Asn} (hl : ∀ x, (enc x).length = sz) (hn : xs.length = n) (hT : Take Es (OwnS e sz v n (xs.flatMap enc)) Es')
    (g : ∀ A c h', Le h h' → v = .slice A n c → n ≤ c → SlOf enc sz h' A n xs → GO C ds l Es' h' K) : GO C ds l Es h K :=
  GO_release hT fun D h' hle hA => by
    obtain ⟨A, c, e1, e2, e3⟩ := OwnS_free' hl hn hA
    exact g A c h' hle e1 e2 e3

/-- An operation's outcome, with what is owned let go behind it. -/
theorem OpTo_relC {α : Type} {enc : α → List Value} {e sz : Nat} {n : Nat} {xs : List α} {o : Oper} (hl : ∀ x, (enc x).length = sz) (hn : xs.length = n)
    (g : OpTo C l Es h o fun v Es' h' => ∃ Fs, Es' = OwnS e sz v n (xs.flatMap enc) :: Fs ∧ ∀ A c h'', Le h' h'' → n ≤ c → SlOf enc sz h'' A n xs → G (.slice A n c) Fs h'') : OpTo C l Es h o G :=
  OpTo_imp g fun v Es' h' w' H ⟨Fs, e1, k⟩ => by
    subst e1
    obtain ⟨D, h'', hle, hA, H'⟩ := H.release .here
    obtain ⟨A, c, rfl, q1, q2⟩ := OwnS_free' hl hn hA
    exact ⟨Fs, h'', H', k A c h'' hle q1 q2⟩

theorem run_append_none0 {P : Program} {t ty e : TypeId} {i : TypeInfo} {w : World} (ht : P.underlying t = some (.slice e)) (hi : P.info? e = some i) {size : Nat}
    {v : Value} {n c : Nat} {xs : List Value} (hown : w.ownsRow 0 e size v n xs) :
    (Builtin.append_ #[t, t] ty #[v, .slice none 0 c]).run P w = .ok v w := by
  rcases hown.2 with ⟨rfl, rfl⟩ | ⟨g, cap, cur, rfl, _, _, hnc, _⟩
  · simp [Builtin.append_, run_underlying ht, sizeOf, typeInfo, hi, Builtin.lenOf, Builtin.firstCells]
  · simp [Builtin.append_, run_underlying ht, sizeOf, typeInfo, hi, Builtin.lenOf, Builtin.firstCells, hnc, storeCells]

/-- append(xs, ys...): xs owned, ys only read. -/
theorem OpTo_appendS {α : Type} {enc : α → List Value} {x y : Operand} {t e : TypeId} {v : Value} {n m c : Nat} {xs ys : List α} {A : Option Addr} {T E : Ty} {Es' : Value → List Asn} (hT : tyOf t C.ts = some T) (hTd : T.desc = .slice e) (hE : tyOf e C.ts = some E)
    (hz : E.zero.cells.size = E.size) (hsz : Nat.blt 0 E.size = true) (hx : evl l x = some v) (hy : evl l y = some (.slice A m c)) (hm : SlOf enc E.size h A m ys) (hl : ∀ x, (enc x).length = E.size) (h1 : ∀ x, ∀ u ∈ enc x, u.oneCell' = true)
    (hR : ∀ v', Repl Es (OwnS e E.size v n (xs.flatMap enc)) (OwnS e E.size v' (n + m) ((xs ++ ys).flatMap enc)) (Es' v')) (h63 : n + m ≤ 1000000000) (hby : Nat.ble E.bytes 100000 = true)
    (g : ∀ A' c', G (.slice A' (n + m) c') (Es' (.slice A' (n + m) c')) h) : OpTo C l Es h ⟨some d, .call ⟨.builtin .append, #[x, y], #[t, t]⟩, ty, pos, aft, gd⟩ G := by
  have hlen := hm.len
  cases A with
  | some ad =>
    refine OpTo_appendQ hT hTd hE hz hsz hx hy (hm.flat hl) (fun v' => by have := hR v'; rw [List.flatMap_append] at this; exact this) (by rw [flatMap_len hl, hlen]) (fun u hu => ?_) h63 hby g
    obtain ⟨x, _, hx⟩ := List.mem_flatMap.1 hu
    exact h1 x u hx
  | none =>
    have hm0 : m = 0 := by
      rcases Nat.eq_zero_or_pos m with h0 | h0
      · exact h0
      · obtain ⟨ad, e, _⟩ := hm.at_ h0; cases e
    subst hm0
    have hys : ys = [] := List.eq_nil_of_length_eq_zero hlen
    subst hys
    intro a w hs hp
    obtain ⟨i, hi, hi1, hi2, hi3⟩ := C.ok.info hE
    obtain ⟨D0, hu, hb0⟩ := C.ok.und hT
    rw [hTd] at hb0
    rw [blank_slice hb0] at hu
    obtain ⟨Ds, hown, hnod, hbd⟩ := hp.own
    obtain ⟨D, hA, hDn, hsub, _⟩ := (hR v).own hown hnod
    have hrow : w.ownsRow 0 e E.size v n (xs.flatMap enc) := by
      obtain ⟨hl, hr⟩ := hA
      refine ⟨hl, hr.imp (fun ⟨h1, h2, _⟩ => ⟨h1, h2⟩) fun ⟨g, cap, cur, h1, h2, h3, h4, h5, h6, h7⟩ => ⟨g, cap, cur, h1, Nat.zero_le _, h3, h4, h5, h6, h7⟩⟩
    have hrun := run_append_none0 (P := C.P) (t := t) (ty := ty) (c := c) hu hi hrow
    obtain ⟨A, c', rfl⟩ := OwnS_form hA
    refine .inl ⟨.slice A n c', w, Es' (.slice A n c'), h, ?_, ?_, g A c'⟩
    · simp only [execOp, resolve, invoke, builtin, Sem.run_bind, Sem.run_pure, Result.andThen_ok, List.map_toArray, List.map_cons, List.map_nil, hs.eval hx, hs.eval hy, hrun]
    · refine hp.asn (hR _) fun D m hA => ?_
      simpa using hA

/-- append(xs, ys...) where xs is only read and has no room: a new row. -/
theorem OpTo_appendF {α : Type} {enc : α → List Value} {x y : Operand} {t e : TypeId} {n m c cx : Nat} {xs ys : List α} {A B : Option Addr} {T E : Ty} (hT : tyOf t C.ts = some T) (hTd : T.desc = .slice e) (hE : tyOf e C.ts = some E)
    (hz : E.zero.cells.size = E.size) (hsz : Nat.blt 0 E.size = true) (hx : evl l x = some (.slice A n cx)) (hy : evl l y = some (.slice B m c)) (hxs : SlOf enc E.size h A n xs) (hys : SlOf enc E.size h B m ys) (hcx : cx = n) (hm : 0 < m)
    (hl : ∀ x, (enc x).length = E.size) (h63 : n + m ≤ 1000000000) (hby : Nat.ble E.bytes 100000 = true)
    (g : ∀ A' c', G (.slice A' (n + m) c') (OwnS e E.size (.slice A' (n + m) c') (n + m) ((xs ++ ys).flatMap enc) :: Es) h) : OpTo C l Es h ⟨some d, .call ⟨.builtin .append, #[x, y], #[t, t]⟩, ty, pos, aft, gd⟩ G := by
  subst hcx
  intro a w hs hp
  obtain ⟨i, hi, hi1, hi2, hi3⟩ := C.ok.info hE
  obtain ⟨D0, hu, hb0⟩ := C.ok.und hT
  rw [hTd] at hb0
  rw [blank_slice hb0] at hu
  obtain ⟨bd, rfl⟩ := hys.addr hm
  have hpos : 0 < E.size := by simpa [Nat.blt_eq] using hsz
  have hbB := Nat.le_of_ble_eq_true hby
  have hcy : ∀ j v, (ys.flatMap enc)[j]? = some v → w.cell? (bd.add j) = some v := fun j v e => by rw [cell?_mem]; exact cellR_le hp.ro (hys.flat hl j v e)
  have hly : (ys.flatMap enc).length = m * i.size := by rw [flatMap_len hl, hys.len, hi1]
  have hlx : (xs.flatMap enc).length = cx * i.size := by rw [flatMap_len hl, hxs.len, hi1]
  have hbytes : (cx + m) * i.bytes ≤ 140737488355328 := by
    rw [hi2]
    calc (cx + m) * E.bytes ≤ 1000000000 * 100000 := Nat.mul_le_mul h63 hbB
      _ ≤ 140737488355328 := by decide
  have hge := grownCap_ge w (cx + m) cx e
  have hcm : grownCap w (cx + m) cx e ≤ maxLen := grownCap_le_maxLen w (cx + m) cx e (by unfold maxLen; omega)
  have hrun : (Builtin.append_ #[t, t] ty #[.slice A cx cx, .slice (some bd) m c]).run C.P w =
      .ok (.slice (some ⟨w.heap.size, 0, none⟩) (cx + m) (grownCap w (cx + m) cx e))
        (w.drew.alloc (.cells ((xs.flatMap enc).toArray ++ (ys.flatMap enc).toArray ++ Builtin.zeroCells E.zero.cells (grownCap w (cx + m) cx e - (cx + m))) e)) := by
    cases A with
    | some ad =>
      exact run_append_grow (P := C.P) w t ty e i E.zero hu hi hi3 ad cx cx _ hlx (fun j v e => by rw [cell?_mem]; exact cellR_le hp.ro (hxs.flat hl j v e)) bd m c _ hly hcy (by omega) (by omega) (growslice_fits (by omega) hbytes)
    | none =>
      have h0 : cx = 0 := by
        rcases Nat.eq_zero_or_pos cx with h0 | h0
        · exact h0
        · obtain ⟨ad, e, _⟩ := hxs.at_ h0; cases e
      subst h0
      have hxs0 : xs = [] := List.eq_nil_of_length_eq_zero hxs.len
      subst hxs0
      have := run_append_nil (P := C.P) w t ty e i E.zero hu hi hi3 bd m c _ hly hcy hm (by omega) (by have := hbytes; simp only [Nat.zero_add] at this; omega)
      simpa using this
  refine .inl ⟨_, w.drew.alloc (.cells ((xs.flatMap enc).toArray ++ (ys.flatMap enc).toArray ++ Builtin.zeroCells E.zero.cells (grownCap w (cx + m) cx e - (cx + m))) e), _, h, ?_, ?_, g (some ⟨w.heap.size, 0, none⟩) (grownCap w (cx + m) cx e)⟩
  · simp only [execOp, resolve, invoke, builtin, Sem.run_bind, Sem.run_pure, Result.andThen_ok, List.map_toArray, List.map_cons, List.map_nil, hs.eval hx, hs.eval hy, hrun]
  · have hp2 : Hp C.w0 C.X0 C.h0 Es h w.drew := hp.drew
    refine hp2.alloc _ _ fun mm hmm => ⟨?_, .inr ⟨w.heap.size, _, _, rfl, rfl, hmm, hge, hcm, ?_, ?_⟩⟩
    · rw [flatMap_len hl]; simp [hxs.len, hys.len]
    · simp only [Array.size_append, List.size_toArray, size_zeroCells, hz, hlx, hly, hi1, ← Nat.add_mul]
      congr 1
      omega
    · simp only [Array.toList_append, List.append_assoc, List.flatMap_append]
      rw [← List.append_assoc]
      refine List.take_left' ?_
      rw [List.length_append, hlx, hly, hi1, Nat.add_mul]

/-- A slice literal, owned. -/
theorem OpTo_buildSliceO {t e n : Nat} {parts : Array (Nat × Operand)} {ps : List (Nat × Value)} {T E : Ty} {cs : List Value} (hT : tyOf t C.ts = some T) (hTd : T.desc = .slice e) (hE : tyOf e C.ts = some E)
    (hz : partL E.zero ≠ []) (hzl : (partL E.zero).length = E.size) (hn : Nat.ble (n * E.size) 16777216 = true) (hp : evlP l parts.toList = some ps) (hc : fillL (fun i => some (i * E.size, E.size)) ps (repl (partL E.zero) n) = some cs)
    (hcl : Nat.beq cs.length (n * E.size) = true) (hn2 : Nat.ble n 16777216 = true)
    (g : ∀ b, G ((.slice (some ⟨b, 0, none⟩) n n)) (OwnS e E.size (.slice (some ⟨b, 0, none⟩) n n) n cs :: Es) h) : OpTo C l Es h ⟨some d, .buildSlice t n parts, ty, pos, aft, gd⟩ G := by
  have hcl := Nat.eq_of_beq_eq_true hcl
  have hn2 := Nat.le_of_ble_eq_true hn2
  refine OpTo_imp (G' := fun v Es' h' => ∃ b, v = .slice (some ⟨b, 0, none⟩) n n ∧ Es' = Blk b e cs :: Es ∧ h' = h) (OpTo_buildSlice hT hTd hE hz hzl hn hp hc fun b => ⟨b, rfl, rfl, rfl⟩) fun v Es' h' w' H ⟨b, e1, e2, e3⟩ => ?_
  subst e1; subst e2; subst e3
  refine ⟨_, _, H.asn (A' := OwnS e E.size (.slice (some ⟨b, 0, none⟩) n n) n cs) .here fun D m hA => ⟨hcl, .inr ⟨b, n, cs.toArray, rfl, hA.1, hA.2, Nat.le_refl _, by unfold maxLen; omega, by simpa using hcl, ?_⟩⟩, g b⟩
  rw [← hcl]; exact List.take_length

theorem run_sliceBound {P : Program} {w : World} {k : IntKind} {i : Int} {j y : Nat} {code : BoundsCode} (hi : i = (j : Int)) (hj : j ≤ y) : (Instr.sliceBound (.int k i) y code).run P w = .ok j w := by
  subst hi
  have : (0 : Int) ≤ (j : Int) ∧ (j : Int) ≤ (y : Int) := by omega
  simp [Instr.sliceBound, asIntOf, this]

/-- 's[lo:]' of a slice that is only read. -/
theorem OpTo_sliceLo {α : Type} {enc : α → List Value} {x y : Operand} {t e : TypeId} {k : IntKind} {i : Int} {lo n c : Nat} {xs : List α} {A : Option Addr} {T E : Ty} (hT : tyOf t C.ts = some T) (hTd : T.desc = .slice e) (hE : tyOf e C.ts = some E)
    (hx : evl l x = some (.slice A n c)) (hy : evl l y = some (.int k i)) (hs : SlOf enc E.size h A n xs) (hi : i = (lo : Int)) (hlo : lo ≤ n) (hnc : n ≤ c)
    (g : ∀ A', SlOf enc E.size h A' (n - lo) (xs.drop lo) → G (.slice A' (n - lo) (c - lo)) Es h) : OpTo C l Es h ⟨dst, .slice t x (some y) none none, ty, pos, aft, gd⟩ G := by
  intro a w hsl hp
  obtain ⟨D0, hu, hb0⟩ := C.ok.und hT
  rw [hTd] at hb0
  rw [blank_slice hb0] at hu
  have e1 : a.eval x = .slice A n c := hsl.eval hx
  have e2 : a.eval y = .int k i := hsl.eval hy
  have hp1 := hs.part (l := lo) (k := n) hlo (Nat.le_refl _) (if c = lo then A else A.map (·.add (lo * E.size))) (fun h => by
    split
    · rename_i hc
      omega
    · rfl)
  rw [List.take_of_length_le (by rw [hs.len]; exact Nat.le_refl _)] at hp1
  refine .inl ⟨_, w, Es, h, ?_, hp, g _ hp1⟩
  simp only [execOp, Instr.sliceAt, Sem.run_bind, run_underlying hu, Result.andThen_ok, Instr.slice, e1, e2, Option.map_some, Option.map_none, Instr.sliceBounds, Sem.run_pure, run_sliceBound (code := .sliceB) hi hlo, C.ok.run_size hE, Bool.false_eq_true, if_false, Option.isSome_none]

/-- 's[:hi:hi]' of a slice that is only read. -/
theorem OpTo_sliceHM {α : Type} {enc : α → List Value} {x y z : Operand} {t e : TypeId} {k k' : IntKind} {i i' : Int} {hi n c : Nat} {xs : List α} {A : Option Addr} {T E : Ty} (hT : tyOf t C.ts = some T) (hTd : T.desc = .slice e) (hE : tyOf e C.ts = some E)
    (hx : evl l x = some (.slice A n c)) (hy : evl l y = some (.int k i)) (hz : evl l z = some (.int k' i')) (hs : SlOf enc E.size h A n xs) (hi1 : i = (hi : Int)) (hi2 : i' = (hi : Int)) (hle : hi ≤ n) (hnc : n ≤ c)
    (g : ∀ A', SlOf enc E.size h A' hi (xs.take hi) → G (.slice A' hi hi) Es h) : OpTo C l Es h ⟨dst, .slice t x none (some y) (some z), ty, pos, aft, gd⟩ G := by
  intro a w hsl hp
  obtain ⟨D0, hu, hb0⟩ := C.ok.und hT
  rw [hTd] at hb0
  rw [blank_slice hb0] at hu
  have e1 : a.eval x = .slice A n c := hsl.eval hx
  have e2 : a.eval y = .int k i := hsl.eval hy
  have e3 : a.eval z = .int k' i' := hsl.eval hz
  have hp1 := hs.part (l := 0) (k := hi) (Nat.zero_le _) hle (if hi = 0 then A else A.map (·.add (0 * E.size))) (fun h => by
    rw [if_neg (by omega)])
  rw [List.drop_zero, Nat.sub_zero] at hp1
  refine .inl ⟨_, w, Es, h, ?_, hp, g _ hp1⟩
  simp only [execOp, Instr.sliceAt, Sem.run_bind, run_underlying hu, Result.andThen_ok, Instr.slice, e1, e2, e3, Option.map_some, Option.map_none, Instr.sliceBounds, Sem.run_pure, run_sliceBound hi1 (Nat.le_refl hi), run_sliceBound hi2 (Nat.le_trans hle hnc), C.ok.run_size hE, Bool.false_eq_true, if_false, Option.isSome_none, Nat.sub_zero]
/-- 's[:hi]' of a slice that is only read. -/
theorem OpTo_sliceHi {α : Type} {enc : α → List Value} {x y : Operand} {t e : TypeId} {k : IntKind} {i : Int} {hi n c : Nat} {xs : List α} {A : Option Addr} {T E : Ty} (hT : tyOf t C.ts = some T) (hTd : T.desc = .slice e) (hE : tyOf e C.ts = some E)
    (hx : evl l x = some (.slice A n c)) (hy : evl l y = some (.int k i)) (hs : SlOf enc E.size h A n xs) (hi1 : i = (hi : Int)) (hle : hi ≤ n) (hnc : n ≤ c)
    (g : ∀ A', SlOf enc E.size h A' hi (xs.take hi) → G (.slice A' hi c) Es h) : OpTo C l Es h ⟨dst, .slice t x none (some y) none, ty, pos, aft, gd⟩ G := by
  intro a w hsl hp
  obtain ⟨D0, hu, hb0⟩ := C.ok.und hT
  rw [hTd] at hb0
  rw [blank_slice hb0] at hu
  have e1 : a.eval x = .slice A n c := hsl.eval hx
  have e2 : a.eval y = .int k i := hsl.eval hy
  have hp1 := hs.part (l := 0) (k := hi) (Nat.zero_le _) hle (if c = 0 then A else A.map (·.add (0 * E.size))) (fun h => by
    rw [if_neg (by omega)])
  rw [List.drop_zero, Nat.sub_zero] at hp1
  refine .inl ⟨_, w, Es, h, ?_, hp, g _ hp1⟩
  simp only [execOp, Instr.sliceAt, Sem.run_bind, run_underlying hu, Result.andThen_ok, Instr.slice, e1, e2, Option.map_some, Option.map_none, Instr.sliceBounds, Sem.run_pure, run_sliceBound hi1 (Nat.le_trans hle hnc), C.ok.run_size hE, Bool.false_eq_true, if_false, if_true, Option.isSome_none, Nat.sub_zero]
end

section
variable {C : Ctx} {h : Ro}
theorem CellsAt.shift {ad : Addr} {vs : List Value} (hc : CellsAt h ad vs) (off : Nat) : CellsAt h (ad.add off) (vs.drop off) := fun j u e => by
  rw [addr_add_add]; rw [List.getElem?_drop] at e; exact hc _ u e
theorem Lv_roF {T : TypeId} {t : Ty} {ad : Addr} {off : Nat} {vs : List Value} {v : Value} (hT : tyOf T C.ts = some t) (hc : CellsAt h ad vs) (hv : pvPart off t.size t.agg vs = some v) : Lv C [] h T (ad.add off) v :=
  Lv_ro hT (hc.shift off) (pvPart_shift hv)
theorem Lv_roF2 {T : TypeId} {t : Ty} {ad : Addr} {o1 o2 : Nat} {vs : List Value} {v : Value} (hT : tyOf T C.ts = some t) (hc : CellsAt h ad vs) (hv : pvPart (o1 + o2) t.size t.agg vs = some v) : Lv C [] h T ((ad.add o1).add o2) v := by
  rw [addr_add_add]; exact Lv_roF hT hc hv
theorem Lv_roF3 {T : TypeId} {t : Ty} {ad : Addr} {o1 o2 o3 : Nat} {vs : List Value} {v : Value} (hT : tyOf T C.ts = some t) (hc : CellsAt h ad vs) (hv : pvPart (o1 + o2 + o3) t.size t.agg vs = some v) : Lv C [] h T (((ad.add o1).add o2).add o3) v := by
  rw [addr_add_add, addr_add_add, ← Nat.add_assoc]; exact Lv_roF hT hc hv
end

def addrD : Option Addr → Addr
  | some a => a
  | none => ⟨0, 0, none⟩
section
variable {α : Type} {enc : α → List Value} {sz : Nat} {h : Ro} {A : Option Addr} {n : Nat} {xs : List α}
theorem SlOf.addrD (s : SlOf enc sz h A n xs) {k : Nat} (hk : k < n) : A = some (Hw.addrD A) := by
  obtain ⟨ad, rfl⟩ := s.addr (by omega)
  rfl
theorem SlOf.cellsD (s : SlOf enc sz h A n xs) (d : α) {k : Nat} (hk : k < n) : CellsAt h ((Hw.addrD A).add (k * sz)) (enc (xs.getD k d)) := by
  obtain ⟨ad, rfl⟩ := s.addr (by omega)
  exact s.cells d hk
end
section
variable {C : Ctx} {l : Sl} {h : Ro} {ty : TypeId} {pos : String} {aft : Array Edge} {gd : Option (Nat × Bool)}
theorem OV_idxS {t e : TypeId} {x y : Operand} {A : Option Addr} {n c j : Nat} {k : IntKind} {i : Int} {T E : Ty} {dst : Option Tmp} (hT : tyOf t C.ts = some T) (hTd : T.desc = .slice e) (hE : tyOf e C.ts = some E)
    (hx : evl l x = some (.slice A n c)) (hy : evl l y = some (.int k i)) (hA : A = some (addrD A)) (hi : i = (j : Int)) (hj : j < n) : OV C l [] h ⟨dst, .indexAddr t x y, ty, pos, aft, gd⟩ (.pointer (some ((addrD A).add (j * E.size)))) :=
  OV_idx hT hTd hE (hA ▸ hx) hy hi hj
end
end Go.Hw

import Derived.Test.YtajmniiiahhfaaaGreatDoorHB
import Derived.Lib.FrozenHead
import Derived.Lib.ConvBytes
import Derived.Lib.UnsafeStr
import Derived.Lib.BufferRead
import Derived.Lib.ItoaNum
import Derived.Lib.ItoaMem
import Derived.Lib.LaidTab
import Derived.Laws.Externs
import Derived.Lib.Bytealg
set_option linter.unusedSimpArgs false
/-
  Hw, part Y: iterators whose elements are told by a relation to the memory (their parts are made while the iterator runs).
-/
set_option linter.unusedVariables false
namespace Go.Hw
open Go

/-- g, called with a yield, hands over xs in their order; what it hands over is told by R and the memory at that time. -/
def SeqR {α : Type} (P : Program) (g : FuncId) (lb : List Value) (R : α → List Value → Ro → Prop) (xs : List α) (h : Ro) : Prop :=
  ∀ (lid : Nat) (I Ix : List α → List Asn → Ro → Prop), (∀ pre Es h1 h2, Le h1 h2 → I pre Es h1 → I pre Es h2) → (∀ pre Es h1 h2, Le h1 h2 → Ix pre Es h1 → Ix pre Es h2) →
    (∀ pre x post u Es h1, xs = pre ++ x :: post → Le h h1 → R x u h1 → I pre Es h1 → Yl P lid u Es h1 fun v Es' h' => (v = .bool true ∧ I (pre ++ [x]) Es' h') ∨ (v = .bool false ∧ Ix (pre ++ [x]) Es' h')) →
    ∀ Es h1, Le h h1 → I [] Es h1 → Fn P g (.func (.yield lid) #[] #[] :: lb).toArray Es h1 fun v Es' h' => I xs Es' h' ∨ ∃ pre post, xs = pre ++ post ∧ Ix pre Es' h'

theorem SeqR.le {α : Type} {P : Program} {g : FuncId} {lb : List Value} {R : α → List Value → Ro → Prop} {xs : List α} {h h' : Ro} (s : SeqR P g lb R xs h) (hl : Le h h') : SeqR P g lb R xs h' := by
  intro lid I Ix m1 m2 hr Es h1 hl1 hI
  refine (s lid (fun pre Es h2 => Le h' h2 ∧ I pre Es h2) (fun pre Es h2 => Ix pre Es h2) (fun pre Es a b hab ⟨q1, q2⟩ => ⟨q1.trans hab, m1 _ _ _ _ hab q2⟩) m2
    (fun pre x post u Es h2 e _ hu ⟨q1, q2⟩ => (hr pre x post u Es h2 e q1 hu q2).mono fun v Es h3 hle hP => hP.imp (fun ⟨p1, p2⟩ => ⟨p1, q1.trans hle, p2⟩) id) Es h1 (hl.trans hl1) ⟨hl1, hI⟩).mono ?_
  rintro v Es' h2 _ (⟨_, h3⟩ | h3)
  · exact .inl h3
  · exact .inr h3

theorem GO_rangeFuncR {C : Ctx} {ds : List Deferred} {l : Sl} {Es : List Asn} {h : Ro} {K : List Item} {g : Operand} {ps : Array Tmp} {assign body : Code} {α : Type} {gf : Nat} {lb : List Value} {R : α → List Value → Ro → Prop} {xs : List α}
    (hro : C.ro = none) (hg : evl l g = some (.func (.func gf) #[] lb.toArray)) (hh : Has C.P gf) (hseq : SeqR C.P gf lb R xs h) (hps : ∀ x u h, R x u h → u.length = ps.size) (hpN : ps.toList.all (fun p => Nat.blt p C.N) = true)
    (I : List α → List Asn → Ro → Prop) (Ix : Code → List α → List Asn → Ro → Prop) (mI : ∀ pre Es h1 h2, Le h1 h2 → I pre Es h1 → I pre Es h2) (mIx : ∀ c pre Es h1 h2, Le h1 h2 → Ix c pre Es h1 → Ix c pre Es h2) (h0 : I [] Es h)
    (round : ∀ (lid : Nat) (r : Loop) (w0 : World) (X0 : List Nat) pre x post u Es1 h1, xs = pre ++ x :: post → R x u h1 → I pre Es1 h1 → Le h h1 → r.state = .ready →
      GO (mkR C.P C.ts C.ok C.N lid w0 X0 h1 (roundP lid r (I (pre ++ [x])) (fun c => Ix c (pre ++ [x])))) [] (zipS ps.toList u l) (LoopA lid r :: Es1) h1 [.code assign, .beginRound, .code body])
    (done : ∀ D h1 Es1, Le h h1 → I xs Es1 h1 → GO C (mark D :: ds) l (DefA D :: Es1) h1 K)
    (stop : ∀ D h1 Es1 c pre post, xs = pre ++ post → Le h h1 → Ix c pre Es1 h1 → GO C (mark D :: ds) l (DefA D :: Es1) h1 (.code c :: K)) :
    GO C ds l Es h (.code (.rangeFunc g ps assign body) :: K) := by
  intro a w s
  refine todo_rangeFunc fun fn => ?_
  obtain ⟨rec, hrec⟩ : ∃ rec : Loop, rec = { state := .ready, pending := none, fn, tmps := a.tmps, params := ps, assign, body, defers := w.heap.size } := ⟨_, rfl⟩
  obtain ⟨lid, hlid⟩ : ∃ lid, lid = w.heap.size + 1 := ⟨_, rfl⟩
  obtain ⟨W1, hW1⟩ : ∃ W1, (w.alloc (.deferred (some []))).alloc (.loop rec) = W1 := ⟨_, rfl⟩
  have H0 : Hp C.w0 C.X0 C.h0 (DefA w.heap.size :: Es) h (w.alloc (.deferred (some []))) := s.hp.alloc _ _ fun m hm => ⟨rfl, _, hm, rfl⟩
  have H1 : Hp C.w0 C.X0 C.h0 (LoopA lid rec :: DefA w.heap.size :: Es) h W1 := by
    have hz : (w.alloc (.deferred (some []))).heap.size = lid := by rw [hlid]; simp
    have := H0.alloc (.loop rec) (LoopA lid rec) (by rw [hz]; exact fun m hm => ⟨rfl, _, hm, rfl⟩)
    rw [← hW1]; exact this
  have H2 : Hp C.w0 C.X0 C.h0 ((LoopA lid rec :: Es) ++ [DefA w.heap.size]) h W1 := H1.perm (by
    simp only [List.cons_append]; exact (List.perm_append_comm (l₁ := [DefA w.heap.size]) (l₂ := Es)).cons _)
  refine ⟨lid, [mark w.heap.size], W1, { target := .fn (.func gf) lb.toArray, args := #[.func (.yield lid) #[] #[]] }, W1, gf, (.func (.yield lid) #[] #[] :: lb).toArray, W1, ?_, ?_, ?_, ?_⟩
  · rw [hro, ← hW1, hrec, hlid]; exact run_enterLoop_outer _ _ _ _ _
  · have e1 : a.eval g = .func (.func gf) #[] lb.toArray := s.slots.eval hg
    simp only [resolve, e1]
    simp [go_sem]
  · obtain ⟨fn', q1, q2, q3⟩ := hh
    simp only [invoke]
    simp [go_sem, run_callFunc q1 q2 q3]
  obtain ⟨Ds, ho, hn, hb⟩ := H2.own
  obtain ⟨D1, D2, rfl, ho1, ho2⟩ := ho.split
  have hb1 : ∀ b ∈ D1.flatten, b ∈ (D1 ++ D2).flatten := fun b h1 => by rw [List.flatten_append, List.mem_append]; exact .inl h1
  have hcall := hseq lid (fun pre Es h' => ∃ Fs, Es = LoopA lid rec :: Fs ∧ I pre Fs h' ∧ Le h h') (fun pre Es h' => ∃ c Fs, Es = LoopA lid { rec with state := .done, pending := some c } :: Fs ∧ Ix c pre Fs h' ∧ Le h h')
    (fun pre Es h1 h2 hl ⟨Fs, q1, q2, q3⟩ => ⟨Fs, q1, mI _ _ _ _ hl q2, q3.trans hl⟩) (fun pre Es h1 h2 hl ⟨c, Fs, q1, q2, q3⟩ => ⟨c, Fs, q1, mIx _ _ _ _ _ hl q2, q3.trans hl⟩)
    (fun pre x post u Es1 h1 hx hl1 hu ⟨Fs, q1, q2, q3⟩ => by
      subst q1
      intro w' X' hl' ⟨Ds', ho', hn', hb'⟩
      have hl0 : w'.heap[lid]? = some (.loop rec) := by
        obtain ⟨D, hA, _⟩ := ho'.get (List.Mem.head _)
        obtain ⟨_, o, hm, rfl⟩ := hA
        exact hm
      have hy := run_yield (P := C.P) (args := u.toArray) hl0 (by rw [hrec]; simpa using hps x u h1 hu)
      refine ⟨_, _, _, _, 0, hy, round_of_todo ?_⟩
      have hz := zipS_ok (ps := ps.toList) (vs := u) (l := l) (tmps := a.tmps) (N := C.N) s.slots s.size hpN
      have e : ((rec.params.zip u.toArray).foldl (fun tmps (t, a) => tmps.setIfInBounds t a) rec.tmps) = ((ps.toList.zip u).foldl (fun t p => t.setIfInBounds p.1 p.2) a.tmps) := by
        rw [hrec, ← Array.foldl_toList, Array.toList_zip]
      rw [e]
      have hst : rec.state = .ready := by rw [hrec]
      have hrr : { rec with state := .ready, pending := none } = rec := by rw [hrec]
      have R := round lid rec w' X' pre x post u Fs h1 hx hu q2 q3 hst { tmps := (ps.toList.zip u).foldl (fun t p => t.setIfInBounds p.1 p.2) a.tmps, defers := [] } w'
        ⟨hz.2, rfl, hz.1, ⟨rfl, rfl, rfl, Nat.le_refl _, Nat.le_refl _, fun _ _ _ => rfl, hl', Le.refl _, fun i o e => .inl e, Ds', ho', hn', fun b hb1 => ⟨(hb' b hb1).1, .inr (hb' b hb1).2.1, (hb' b hb1).2.2⟩⟩⟩
      have ha : rec.assign = assign := by rw [hrec]
      have hbd : rec.body = body := by rw [hrec]
      rw [← ha, ← hbd] at R
      have mono : ∀ e a' w2, rQ C.P lid w' X' h1 (roundP lid rec (I (pre ++ [x])) (fun c => Ix c (pre ++ [x]))) e a' w2 → roundPost C.P lid (fun e w2 => ∃ v, e = .returned v ∧ ∃ Es h2, ((v = .bool true ∧ ∃ Fs, Es = LoopA lid rec :: Fs ∧ I (pre ++ [x]) Fs h2 ∧ Le h h2) ∨ (v = .bool false ∧ ∃ c Fs, Es = LoopA lid { rec with state := .done, pending := some c } :: Fs ∧ Ix c (pre ++ [x]) Fs h2 ∧ Le h h2)) ∧ Hp w' X' h1 Es h2 w2) e a' w2 := by
        have aux : ∀ e w2, (∃ v, e = Ending.returned v ∧ ∃ Es h2, roundP lid rec (I (pre ++ [x])) (fun c => Ix c (pre ++ [x])) v Es h2 ∧ Hp w' X' h1 Es h2 w2) → (∃ v, e = Ending.returned v ∧ ∃ Es h2, ((v = .bool true ∧ ∃ Fs, Es = LoopA lid rec :: Fs ∧ I (pre ++ [x]) Fs h2 ∧ Le h h2) ∨ (v = .bool false ∧ ∃ c Fs, Es = LoopA lid { rec with state := .done, pending := some c } :: Fs ∧ Ix c (pre ++ [x]) Fs h2 ∧ Le h h2)) ∧ Hp w' X' h1 Es h2 w2) := by
          rintro e w2 ⟨v, he, Es, h2, hP, H⟩
          refine ⟨v, he, Es, h2, ?_, H⟩
          rcases hP with ⟨p1, Fs, p2, p3⟩ | ⟨p1, c, Fs, p2, p3⟩
          · rw [hrr] at p2; exact .inl ⟨p1, Fs, p2, p3, q3.trans H.le⟩
          · exact .inr ⟨p1, c, Fs, p2, p3, q3.trans H.le⟩
        intro e a' w2 hq
        cases e with
        | normal => obtain ⟨v, w4, q1, q2⟩ := hq; exact ⟨v, w4, q1, aux _ _ q2⟩
        | ret => obtain ⟨v, w4, q1, q2⟩ := hq; exact ⟨v, w4, q1, aux _ _ q2⟩
        | exit id => obtain ⟨v, w4, q1, q2⟩ := hq; exact ⟨v, w4, q1, aux _ _ q2⟩
        | goto t => obtain ⟨v, w4, q1, q2⟩ := hq; exact ⟨v, w4, q1, aux _ _ q2⟩
        | panic ch => exact hq.elim
        | outgrown => exact hq.elim
      intro b cs hb0
      obtain ⟨e, a', w2, hq, harr⟩ := R b cs hb0
      exact ⟨e, a', w2, mono _ _ _ hq, harr⟩)
    (LoopA lid rec :: Es) h (Le.refl h) ⟨Es, rfl, h0, Le.refl h⟩
  refine (hcall W1 D1.flatten H2.ro ⟨D1, ho1, by rw [List.flatten_append, List.nodup_append] at hn; exact hn.1, fun b h1 => ⟨(hb b (hb1 b h1)).1, h1, (hb b (hb1 b h1)).2.2⟩⟩).mono ?_
  rintro e w3 ⟨v, rfl, Es', h', hP, H'⟩
  have H3 := H2.call ho1 ho2 hn hb H'
  refine ⟨v, rfl, ?_⟩
  have hnb : rec.state ≠ .busy := by rw [hrec]; simp
  have fin : ∀ (r' : Loop) (Fs : List Asn), r'.state ≠ .busy → Hp C.w0 C.X0 C.h0 (LoopA lid r' :: Fs ++ [DefA w.heap.size]) h' w3 → (Instr.endLoop lid).run C.P w3 = .ok r'.pending (w3.putObj lid (.loop { r' with state := .exhausted })) ∧
      Hp C.w0 C.X0 C.h0 (DefA w.heap.size :: Fs) h' (w3.putObj lid (.loop { r' with state := .exhausted })) := by
    intro r' Fs hst H
    obtain ⟨o, ho, rfl⟩ := H.obj
    refine ⟨run_endLoop ho hst, ?_⟩
    have := (H.putObj (p' := fun o => o = .loop { r' with state := .exhausted }) rfl).drop .here
    exact this.perm (List.perm_append_comm (l₁ := Fs) (l₂ := [DefA w.heap.size]))
  rcases hP with ⟨Fs, rfl, p1, p2⟩ | ⟨pre, post, hx, c, Fs, rfl, p1, p2⟩
  · obtain ⟨q1, q2⟩ := fin rec Fs hnb H3
    have hpend : rec.pending = none := by rw [hrec]
    rw [hpend] at q1 q2
    refine ⟨none, _, q1, ?_⟩
    exact done w.heap.size h' Fs p2 p1 { a with defers := [mark w.heap.size] ++ a.defers } _ ⟨s.size, by rw [← s.defers]; rfl, s.slots, q2⟩
  · obtain ⟨q1, q2⟩ := fin { rec with state := .done, pending := some c } Fs (by simp) H3
    refine ⟨some c, _, q1, ?_⟩
    exact stop w.heap.size h' Fs c pre post hx p2 p1 { a with defers := [mark w.heap.size] ++ a.defers } _ ⟨s.size, by rw [← s.defers]; rfl, s.slots, q2⟩

end Go.Hw
/-
  Hw, part Z: texts (index, sum, part), rows of bytes: made of a text, grown by a text or by another row.
-/
set_option linter.unusedVariables false
namespace Go.Hw
open Go

/-- A text's value. -/
def str (l : List UInt8) : ByteArray := ⟨l.toArray⟩
theorem str_toList (l : List UInt8) : (str l).toList = l := by
  rw [ByteArray.toList_eq]; rfl
theorem str_size (l : List UInt8) : (str l).size = l.length := rfl
theorem str_append (a b : List UInt8) : str a ++ str b = str (a ++ b) := by
  apply ByteArray.ext
  simp [str]
theorem str_inj {a b : List UInt8} (h : str a = str b) : a = b := by rw [← str_toList a, h, str_toList]
def encB (b : UInt8) : List Value := [.int .u8 b.toNat]
theorem encB_cells (l : List UInt8) : l.flatMap encB = l.map fun b => Value.int .u8 b.toNat := by
  induction l with
  | nil => rfl
  | cons x r ih => rw [List.flatMap_cons, ih]; rfl
theorem strCells_str (l : List UInt8) : Lib.strCells (str l) = l.flatMap encB := by rw [encB_cells]; rfl

/-- A row of bytes of the call's own; it may bear the mark of a row that was made of a text. -/
def OwnPf (f : Bool) (e : TypeId) (v : Value) (n : Nat) (xs : List Value) : Asn :=
  ⟨fun D m => xs.length = n ∧ ((v = .slice none 0 0 ∧ n = 0 ∧ D = []) ∨
      ∃ g cap cur fz, v = .slice (some ⟨g, 0, none⟩) n cap ∧ D = [g] ∧ m g = some (.cells cur e fz) ∧ (fz = (0, 0) ∨ (f = true ∧ (cap ≤ fz.1 ∨ fz.2 = 0))) ∧ n ≤ cap ∧ cap ≤ maxLen ∧ cur.size = cap ∧ cur.toList.take n = xs),
   fun D m m' h ⟨hl, hr⟩ => ⟨hl, hr.imp id fun ⟨g, cap, cur, fz, h1, h2, h3, h4⟩ => ⟨g, cap, cur, fz, h1, h2, by rw [← h g (by simp [h2])]; exact h3, h4⟩⟩⟩
abbrev OwnP := OwnPf true
theorem OwnP_of {f : Bool} {e : TypeId} {v : Value} {n : Nat} {xs : List Value} (D : List Nat) (m : Ro) (h : (OwnS e 1 v n xs).holds D m) : (OwnPf f e v n xs).holds D m := by
  obtain ⟨hl, hr⟩ := h
  rw [Nat.mul_one] at hl
  refine ⟨hl, hr.imp id ?_⟩
  rintro ⟨g, cap, cur, h1, h2, h3, h4, h5, h6, h7⟩
  rw [Nat.mul_one] at h6 h7
  exact ⟨g, cap, cur, (0, 0), h1, h2, h3, .inl rfl, h4, h5, h6, h7⟩
theorem OwnS_of {e : TypeId} {v : Value} {n : Nat} {xs : List Value} (D : List Nat) (m : Ro) (h : (OwnPf false e v n xs).holds D m) : (OwnS e 1 v n xs).holds D m := by
  obtain ⟨hl, hr⟩ := h
  refine ⟨by rw [Nat.mul_one]; exact hl, hr.imp id ?_⟩
  rintro ⟨g, cap, cur, fz, h1, h2, h3, hf, h4, h5, h6, h7⟩
  obtain rfl : fz = (0, 0) := hf.elim id (fun h => by cases h.1)
  exact ⟨g, cap, cur, h1, h2, h3, h4, h5, by rw [Nat.mul_one]; exact h6, by rw [Nat.mul_one]; exact h7⟩
theorem OwnP_free {f : Bool} {e : TypeId} {v : Value} {n : Nat} {l : List UInt8} {D : List Nat} {h : Ro} (hn : l.length = n) (H : (OwnPf f e v n (l.flatMap encB)).holds D h) : ∃ A c, v = .slice A n c ∧ n ≤ c ∧ SlOf encB 1 h A n l := by
  obtain ⟨hl, hr⟩ := H
  rcases hr with ⟨rfl, h0, _⟩ | ⟨g, cap, cur, fz, rfl, _, h3, _, h5, _, h7, h8⟩
  · subst h0
    have : l = [] := List.eq_nil_of_length_eq_zero hn
    subst this
    exact ⟨none, 0, rfl, Nat.le_refl _, SlOf.nil⟩
  · refine ⟨_, cap, rfl, h5, SlOf.of_flat (fun _ => rfl) hn fun j u hu => ?_⟩
    rw [add_off, Nat.zero_add]
    rw [← h8, List.getElem?_take] at hu
    split at hu
    · unfold cellR; rw [h3]; simpa using hu
    · cases hu

theorem run_storeCells_atU (P : Program) (g o : Nat) (t : TypeId) (fz : Nat × Nat) : ∀ (vs : List Value) (i : Nat) (cur : Array Value) (w : World), w.heap[g]? = some (.cells cur t fz) → (cur.size ≤ fz.1 ∨ fz.2 = 0) → o + i + vs.length ≤ cur.size → (∀ v ∈ vs, v.oneCell' = true) →
    (storeCells ⟨g, o, none⟩ vs i).run P w = .ok () (w.setRow g (cur.toList.take (o + i) ++ vs ++ cur.toList.drop (o + i + vs.length)).toArray)
  | [], i, cur, w, hg, _, _, _ => by
    simp only [storeCells, List.append_nil, List.length_nil, Nat.add_zero, List.take_append_drop, Array.toArray_toList]
    rw [setRow_self w g cur t fz hg]
    rfl
  | v :: rest, i, cur, w, hg, hfz, hl, h1 => by
    have hi : o + i < cur.size := by simp at hl; omega
    have hadd : (⟨g, o, none⟩ : Addr).add i = ⟨g, o + i, none⟩ := by unfold Addr.add; split <;> simp_all
    have hcell : w.cell? ⟨g, o + i, none⟩ = some cur[o + i] := by simp [World.cell?, hg, hi]
    have hfro : w.frozen? ⟨g, o + i, none⟩ = false := by
      obtain ⟨lo, hi'⟩ := fz
      simp only [World.frozen?, hg, Bool.and_eq_false_iff, decide_eq_false_iff_not]
      simp only at hfz
      omega
    have hst : (store ((⟨g, o, none⟩ : Addr).add i) v).run P w = .ok () (w.setRow g (cur.setIfInBounds (o + i) v)) := by
      rw [hadd, run_store P w _ v _ (h1 v (by simp)), hcell]
      simp [hfro, setCell_eq_setRow w g (o + i) cur t fz v hg]
    have ih := run_storeCells_atU P g o t fz rest (i + 1) (cur.setIfInBounds (o + i) v) (w.setRow g (cur.setIfInBounds (o + i) v)) (setRow_heap w g cur _ t _ hg) (by simpa using hfz) (by simp at hl ⊢; omega) (fun x hx => h1 x (by simp [hx]))
    simp only [storeCells, Sem.run_bind, hst, Result.andThen_ok, ih, setRow_setRow]
    congr 3
    have e := list_seg_step cur.toList (o + i) v rest (by simp at hl ⊢; omega)
    simpa [Array.toList_setIfInBounds, Nat.add_assoc] using e

/-- What growing a row comes to, for whatever is added. -/
theorem OwnP_grow {f : Bool} {P : Program} {R : Sem Value} {e : TypeId} {v : Value} {n m : Nat} {xs news : List Value} {D : List Nat} {w : World} (hA : (OwnPf f e v n xs).holds D (mem w)) (hm : news.length = m) (h63 : n + m ≤ 1000000000)
    (room : ∀ g cap cur fz, v = .slice (some ⟨g, 0, none⟩) n cap → w.heap[g]? = some (.cells cur e fz) → (cur.size ≤ fz.1 ∨ fz.2 = 0) → n + m ≤ cap → n + news.length ≤ cur.size →
      R.run P w = .ok (.slice (some ⟨g, 0, none⟩) (n + m) cap) (w.setRow g (cur.toList.take n ++ news ++ cur.toList.drop (n + m)).toArray))
    (grow : ∀ b cap, v = .slice (some b) n cap → (∀ j u, xs[j]? = some u → w.cell? (b.add j) = some u) → cap < n + m →
      R.run P w = .ok (.slice (some ⟨w.heap.size, 0, none⟩) (n + m) (grownCap w (n + m) cap e)) (w.drew.alloc (.cells (xs.toArray ++ news.toArray ++ Builtin.zeroCells (Value.int .u8 0).cells (grownCap w (n + m) cap e - (n + m))) e)))
    (nil0 : v = .slice none 0 0 → m = 0 → R.run P w = .ok (.slice none 0 0) w)
    (nil1 : v = .slice none 0 0 → 0 < m → R.run P w = .ok (.slice (some ⟨w.heap.size, 0, none⟩) m (grownCap w m 0 e)) (w.drew.alloc (.cells (news.toArray ++ Builtin.zeroCells (Value.int .u8 0).cells (grownCap w m 0 e - m)) e))) :
    ∃ v' w', R.run P w = .ok v' w' ∧ w'.os = w.os ∧ w'.tape = w.tape ∧ w'.output = w.output ∧ w.heap.size ≤ w'.heap.size ∧
      ∃ D', (OwnPf f e v' (n + m) (xs ++ news)).holds D' (mem w') ∧ D'.Nodup ∧ (∀ b ∈ D', (b ∈ D ∨ w.heap.size ≤ b) ∧ b < w'.heap.size) ∧ ∀ i, i < w.heap.size → i ∉ D → w'.heap[i]? = w.heap[i]? := by
  obtain ⟨hl, hr⟩ := hA
  have hlen : (xs ++ news).length = n + m := by rw [List.length_append, hl, hm]
  have hmx : n + m ≤ maxLen := by unfold maxLen; omega
  have made : ∀ (cap : Nat) (C : Array Value), cap < n + m → C = xs.toArray ++ news.toArray ++ Builtin.zeroCells (Value.int .u8 0).cells (grownCap w (n + m) cap e - (n + m)) →
      ∃ D', (OwnPf f e (.slice (some ⟨w.heap.size, 0, none⟩) (n + m) (grownCap w (n + m) cap e)) (n + m) (xs ++ news)).holds D' (mem (w.drew.alloc (.cells C e))) ∧ D'.Nodup ∧
        (∀ b ∈ D', (b ∈ D ∨ w.heap.size ≤ b) ∧ b < (w.drew.alloc (.cells C e)).heap.size) ∧ ∀ i, i < w.heap.size → i ∉ D → (w.drew.alloc (.cells C e)).heap[i]? = w.heap[i]? := by
    intro cap C hc hC
    have hge := grownCap_ge w (n + m) cap e
    have hcm := grownCap_le_maxLen w (n + m) cap e hmx
    refine ⟨[w.heap.size], ⟨hlen, .inr ⟨w.heap.size, _, C, (0, 0), rfl, rfl, heap_alloc_new w.drew _, .inl rfl, hge, hcm, ?_, ?_⟩⟩, by simp, ?_, fun k hk _ => heap_alloc_old w.drew _ hk⟩
    · have hz1 : (Value.int IntKind.u8 0).cells.size = 1 := rfl
      simp only [hC, Array.size_append, List.size_toArray, size_zeroCells, hz1, hl, hm]
      omega
    · simp only [hC, Array.toList_append, List.append_assoc]
      rw [← List.append_assoc, ← hlen]
      exact List.take_left
    · intro b hb
      simp only [List.mem_singleton] at hb
      subst hb
      exact ⟨.inr (Nat.le_refl _), by simp⟩
  rcases hr with ⟨rfl, h0, rfl⟩ | ⟨g, cap, cur, fz, rfl, rfl, h3, h4, h5, h6, h7, h8⟩
  · subst h0
    have hx : xs = [] := List.eq_nil_of_length_eq_zero hl
    subst hx
    by_cases h0 : m = 0
    · subst h0
      have hn : news = [] := List.eq_nil_of_length_eq_zero hm
      subst hn
      exact ⟨_, _, nil0 rfl rfl, rfl, rfl, rfl, Nat.le_refl _, [], ⟨rfl, .inl ⟨rfl, rfl, rfl⟩⟩, by simp, by simp, fun _ _ _ => rfl⟩
    · have hr := nil1 rfl (by omega)
      have := made 0 (news.toArray ++ Builtin.zeroCells (Value.int .u8 0).cells (grownCap w m 0 e - m)) (by omega) (by simp only [Nat.zero_add, Array.empty_append])
      simp only [Nat.zero_add, List.nil_append] at this ⊢
      exact ⟨_, _, hr, rfl, rfl, rfl, by simp, this⟩
  · by_cases hroom : n + m ≤ cap
    · have hr := room g cap cur fz rfl h3 (by rw [h7]; rcases h4 with rfl | h4; exact .inr rfl; exact h4.2) hroom (by omega)
      refine ⟨_, _, hr, rfl, rfl, rfl, by simp, [g], ⟨hlen, .inr ⟨g, cap, _, fz, rfl, rfl, setRow_heap w g cur _ e _ h3, h4, hroom, h6, ?_, ?_⟩⟩, by simp, ?_, fun i hi hni => setRow_other w g i _ (fun e => hni (by simp [e]))⟩
      · simp only [List.size_toArray, List.length_append, List.length_take, List.length_drop, Array.length_toList]
        omega
      · rw [h8, ← hlen]; exact List.take_left
      · intro b hb
        simp only [List.mem_singleton] at hb
        subst hb
        exact ⟨.inl (by simp), by simpa using (Array.getElem?_eq_some_iff.1 (show w.heap[b]? = _ from h3)).1⟩
    · have holds : ∀ j u, xs[j]? = some u → w.cell? ((⟨g, 0, none⟩ : Addr).add j) = some u := by
        intro j u hu
        rw [add_off, Nat.zero_add]
        rw [← h8, List.getElem?_take] at hu
        split at hu
        · have h3' : w.heap[g]? = some (.cells cur e fz) := h3
          simp only [World.cell?, h3']; simpa using hu
        · cases hu
      have hr := grow ⟨g, 0, none⟩ cap rfl holds (by omega)
      exact ⟨_, _, hr, rfl, rfl, rfl, by simp, made cap _ (by omega) rfl⟩

section
variable {C : Ctx} {ds : List Deferred} {l : Sl} {Es : List Asn} {h : Ro} {K : List Item} {G : Value → List Asn → Ro → Prop} {ty : TypeId} {pos : String} {aft : Array Edge} {gd : Option (Nat × Bool)} {d : Tmp} {dst : Option Tmp}
/-! #### Texts -/
theorem OV_strIdx {t : TypeId} {x y : Operand} {s : List UInt8} {j : Nat} {k : IntKind} {i : Int} {T : Ty} (hT : tyOf t C.ts = some T) (hTd : T.desc = .string) (hx : evl l x = some (.string (str s))) (hy : evl l y = some (.int k i)) (hi : i = (j : Int)) (hj : j < s.length) :
    OV C l [] h ⟨dst, .index t x y, ty, pos, aft, gd⟩ (.int .u8 ((s.getD j 0).toNat : Int)) :=
  ⟨rfl, fun a w hs _ _ => by
    obtain ⟨D0, hu, hb0⟩ := C.ok.run_und hT
    have hu := hu w
    rw [hTd] at hb0
    rw [blank_string hb0] at hu
    subst hi
    have hg : (str s)[j]? = some (s.getD j 0) := by
      have h1 : j < (str s).size := hj
      rw [getElem?_pos (str s) j h1]
      congr 1
      show s[j] = _
      simp [List.getD, List.getElem?_eq_getElem hj]
      rfl
    simp only [execOp, hs.eval hx, hs.eval hy, Instr.index, asIntOf, Sem.run_bind, Sem.run_pure, Result.andThen_ok, hu, Int.toNat_natCast, Int.natCast_nonneg, if_true, hg]⟩
theorem OV_strCat {t ty' : TypeId} {x y : Operand} {a b : List UInt8} {T : Ty} (hT : tyOf t C.ts = some T) (hx : evl l x = some (.string (str a))) (hy : evl l y = some (.string (str b))) (hl : a.length + b.length ≤ 1000000000) :
    OV C l [] h ⟨dst, .binOp .add t x y ty', ty, pos, aft, gd⟩ (.string (str (a ++ b))) :=
  ⟨rfl, fun ac w hs _ _ => by
    obtain ⟨D0, hu, hb0⟩ := C.ok.run_und hT
    have hu := hu w
    have hm : ¬ (((str a).size + (str b).size : Nat) : Int) > IntKind.i64.max := by
      rw [str_size, str_size]; (have e2 : IntKind.i64.max = 9223372036854775807 := by decide); rw [e2]; omega
    have e1 : (eqGuard .add t x y (.string (str a)) (.string (str b)) : Sem Unit).run C.P w = .ok () w := rfl
    simp only [execOp, hs.eval hx, hs.eval hy, Sem.run_bind, e1, Result.andThen_ok, binOp, Op.stringOp, hm, if_false, str_append, Sem.run_pure]⟩
/-! #### Rows made of texts, texts made of rows -/
theorem OpTo_bytes {t u e : TypeId} {x : Operand} {s : List UInt8} {T U E : Ty} (hT : tyOf t C.ts = some T) (hU : tyOf u C.ts = some U) (hUd : U.desc = .slice e) (hE : tyOf e C.ts = some E) (hEd : E.desc = .int .u8) (hx : evl l x = some (.string (str s))) (hl : s.length ≤ 1000000000)
    (g : ∀ b c, G (.slice (some ⟨b, 0, none⟩) s.length c) (OwnP e (.slice (some ⟨b, 0, none⟩) s.length c) s.length (s.flatMap encB) :: Es) h) : OpTo C l Es h ⟨dst, .convert t u x, ty, pos, aft, gd⟩ G :=
  fun a w hs hp => by
    obtain ⟨D0, hu0, _⟩ := C.ok.und hT
    obtain ⟨D1, hu1, hb1⟩ := C.ok.und hU
    rw [hUd] at hb1; rw [blank_slice hb1] at hu1
    obtain ⟨D2, hu2, hb2⟩ := C.ok.und hE
    rw [hEd] at hb2; rw [blank_int hb2] at hu2
    have hr := Lib.run_convert_string_bytes (P := C.P) w t u e (str s) hu0 hu1 hu2
    refine .inl ⟨_, Lib.bytesWorld w e (str s), _, h, ?_, ?_, g w.heap.size (grownCap w s.length 0 e)⟩
    · simp only [execOp, hs.eval hx, Sem.run_bind, hr, Result.andThen_ok, Sem.run_pure]; rfl
    · refine hp.turn rfl rfl rfl (by rw [Lib.bytesWorld_size]; omega) fun Ds hown hnod hbd => ?_
      refine ⟨[w.heap.size] :: Ds, ⟨⟨?_, .inr ⟨w.heap.size, _, Lib.bytesCells w e (str s), _, rfl, rfl, Lib.bytesWorld_at_new w e (str s), .inr ⟨rfl, .inl ?_⟩, grownCap_ge _ _ _ _, grownCap_le_maxLen _ _ _ _ (by unfold maxLen; omega), ?_, ?_⟩⟩, ?_⟩, ?_, ?_, ?_⟩
      · rw [flatMap_len (sz := 1) (fun _ => rfl), Nat.mul_one]
      · have := grownCap_ge w s.length 0 e
        simp only [Lib.bytesCells, Array.size_append, Array.size_map, Array.size_replicate]
        show grownCap w s.length 0 e ≤ s.length + (grownCap w s.length 0 e - s.length)
        omega
      · have := grownCap_ge w s.length 0 e
        simp only [Lib.bytesCells, Array.size_append, Array.size_map, Array.size_replicate]
        show s.length + (grownCap w s.length 0 e - s.length) = _
        omega
      · rw [encB_cells]
        simp only [Lib.bytesCells, Array.toList_append, Array.toList_map]
        exact List.take_left' (by simp [str])
      · exact hown.loc fun b hb => by
          have := hbd b hb
          show w.heap[b]? = _
          exact (Lib.bytesWorld_at_old w e (str s) b this).symm
      · rw [List.flatten_cons, List.nodup_append]
        refine ⟨by simp, hnod, ?_⟩
        intro x hx y hy
        simp only [List.mem_singleton] at hx
        have := hbd y hy
        omega
      · intro b hb
        rw [List.flatten_cons, List.mem_append, List.mem_singleton] at hb
        rw [Lib.bytesWorld_size]
        rcases hb with rfl | hb
        · exact ⟨.inr (Nat.le_refl _), by omega⟩
        · have := hbd b hb; exact ⟨.inl hb, by omega⟩
      · intro i hi _
        exact Lib.bytesWorld_at_old w e (str s) i hi
theorem OpTo_bytesR {t u e : TypeId} {x : Operand} {s : List UInt8} {T U E : Ty} (hT : tyOf t C.ts = some T) (hU : tyOf u C.ts = some U) (hUd : U.desc = .slice e) (hE : tyOf e C.ts = some E) (hEd : E.desc = .int .u8) (hx : evl l x = some (.string (str s))) (hl : s.length ≤ 1000000000)
    (g : ∀ A c h', Le h h' → SlOf encB 1 h' A s.length s → G (.slice A s.length c) Es h') : OpTo C l Es h ⟨dst, .convert t u x, ty, pos, aft, gd⟩ G :=
  OpTo_free (OpTo_bytes hT hU hUd hE hEd hx hl fun b c => ⟨_, Es, rfl, fun D h'' hle hD => by
    obtain ⟨A, c', e1, _, e2⟩ := OwnP_free rfl hD
    injection e1 with e1 _ e3
    subst e1; subst e3
    exact g _ _ _ hle e2⟩)
theorem OV_strOf {t u e : TypeId} {x : Operand} {s : List UInt8} {A : Option Addr} {n c : Nat} {T U E : Ty} (hT : tyOf t C.ts = some T) (hTd : T.desc = .slice e) (hU : tyOf u C.ts = some U) (hUd : U.desc = .string) (hE : tyOf e C.ts = some E) (hEd : E.desc = .int .u8) (hx : evl l x = some (.slice A n c)) (hsl : SlOf encB 1 h A n s) :
    OV C l [] h ⟨dst, .convert t u x, ty, pos, aft, gd⟩ (.string (str s)) :=
  ⟨rfl, fun a w hs _ hle => by
    obtain ⟨D0, hu0, hb0⟩ := C.ok.und hT
    rw [hTd] at hb0; rw [blank_slice hb0] at hu0
    obtain ⟨D1, hu1, hb1⟩ := C.ok.und hU
    rw [hUd] at hb1; rw [blank_string hb1] at hu1
    obtain ⟨D2, hu2, hb2⟩ := C.ok.und hE
    rw [hEd] at hb2; rw [blank_int hb2] at hu2
    have hlen := hsl.len
    have key : (convert t u (.slice A n c)).run C.P w = .ok (.string (str s)) w := by
      cases A with
      | none =>
        have : s = [] := by
          cases s with
          | nil => rfl
          | cons b r =>
            obtain ⟨ad, h1⟩ := hsl.addr (show 0 < n by simp at hlen; omega)
            cases h1
        subst this
        subst hlen
        exact Lib.run_convert_nil_bytes w t u e c hu0 hu2 hu1
      | some ad =>
        subst hlen
        refine run_convert_bytes_back w t u e ad c s hu0 hu2 hu1 fun j hj => ?_
        have h1 := hsl.cells 0 hj
        have h2 := h1 0 (.int .u8 (s.getD j 0).toNat) rfl
        rw [cell?_mem]
        have e3 : (ad.add (j * 1)).add 0 = ad.add j := by rw [addr_add_add]; simp
        rw [e3] at h2
        have e4 : s.getD j 0 = s[j] := by simp [List.getD, List.getElem?_eq_getElem hj]
        rw [e4] at h2
        exact cellR_le hle h2
    simp only [execOp, hs.eval hx, key, Sem.run_bind, Result.andThen_ok, Sem.run_pure]⟩
/-! #### append -/
theorem appStr_run {f : Bool} {P : Program} {e t u ty : TypeId} {i : TypeInfo} (ht : P.underlying t = some (.slice e)) (hu : P.underlying u = some .string) (hi : P.info? e = some i) (hz : i.zero = some (.int .u8 0)) (hs1 : i.size = 1) (hb1 : i.bytes = 1)
    {v : Value} {n : Nat} {xs : List Value} {D : List Nat} {w : World} (hA : (OwnPf f e v n xs).holds D (mem w)) (s : List UInt8) (h63 : n + s.length ≤ 1000000000) :
    ∃ v' w', (Builtin.append_ #[t, u] ty #[v, .string (str s)]).run P w = .ok v' w' ∧ w'.os = w.os ∧ w'.tape = w.tape ∧ w'.output = w.output ∧ w.heap.size ≤ w'.heap.size ∧
      ∃ D', (OwnPf f e v' (n + s.length) (xs ++ s.flatMap encB)).holds D' (mem w') ∧ D'.Nodup ∧ (∀ b ∈ D', (b ∈ D ∨ w.heap.size ≤ b) ∧ b < w'.heap.size) ∧ ∀ i, i < w.heap.size → i ∉ D → w'.heap[i]? = w.heap[i]? := by
  have hsl : (str s).size = s.length := rfl
  have hcl : (Lib.strCells (str s)).length = s.length := by rw [Lib.strCells_length]; rfl
  rw [← strCells_str]
  have hxl : xs.length = n := hA.1
  refine OwnP_grow hA hcl h63 ?_ ?_ ?_ ?_
  · intro g cap cur fz hv hg hfz hroom hfit
    subst hv
    have hf := Lib.run_firstCells_string (P := P) w 1 (str s)
    rw [hsl] at hf
    have hst := run_storeCells_atU P g n e fz (Lib.strCells (str s)) 0 cur w hg hfz (by rw [hcl] at hfit ⊢; simpa using hfit) (Lib.strCells_oneCell (str s))
    simp only [Nat.add_zero, hcl] at hst
    simp [Builtin.append_, run_underlying ht, run_underlying hu, sizeOf, typeInfo, hi, hs1, Builtin.lenOf, hsl, hroom, hf, Addr.add_lit, hst]
  · intro b cap hv hc hlt
    subst hv
    exact Lib.run_append_grow_string (P := P) w t u ty e i (.int .u8 0) ht hu hi hz b n cap xs (by rw [hs1, hxl, Nat.mul_one]) hc (str s) (by rw [hsl]; omega) (by rw [hsl]; omega) (by rw [hb1, hsl]; exact growslice_fits (by omega) (by omega))
  · intro hv h0
    subst hv
    have hf := Lib.run_firstCells_string (P := P) w 1 (str s)
    have hn : Lib.strCells (str s) = [] := List.eq_nil_of_length_eq_zero (by omega)
    rw [hsl, h0] at hf
    simp [Builtin.append_, run_underlying ht, run_underlying hu, sizeOf, typeInfo, hi, hs1, Builtin.lenOf, hsl, h0, hf]
  · intro hv h0
    subst hv
    have hr := run_append_nil_string (P := P) w t u ty e i (.int .u8 0) ht hu hi hz (str s) (by rw [hsl]; omega) (by rw [hsl]; omega) (by rw [hb1, hsl]; omega)
    have e1 : ((str s).data.map fun b => Value.int .u8 b.toNat) = (Lib.strCells (str s)).toArray := by
      apply Array.ext'; simp [Lib.strCells]
    rw [e1, hsl] at hr
    exact hr
theorem growForm {f : Bool} {e : TypeId} {v : Value} {n : Nat} {xs : List Value} {D : List Nat} {m : Ro} (h : (OwnPf f e v n xs).holds D m) : ∃ A c, v = .slice A n c := by
  rcases h.2 with ⟨rfl, rfl, _⟩ | ⟨g, cap, _, _, rfl, _⟩
  · exact ⟨none, 0, rfl⟩
  · exact ⟨_, cap, rfl⟩
/-- append(row, text...). -/
theorem OpTo_appStr {f : Bool} {t u e : TypeId} {x y : Operand} {v : Value} {n : Nat} {xs : List Value} {s : List UInt8} {T U E : Ty} {Es' : Value → List Asn} (hT : tyOf t C.ts = some T) (hTd : T.desc = .slice e) (hU : tyOf u C.ts = some U) (hUd : U.desc = .string) (hE : tyOf e C.ts = some E) (hEz : E.zero = .int .u8 0) (hEs : E.size = 1) (hEb : E.bytes = 1)
    (hx : evl l x = some v) (hy : evl l y = some (.string (str s))) (hR : ∀ v', Repl Es (OwnPf f e v n xs) (OwnPf f e v' (n + s.length) (xs ++ s.flatMap encB)) (Es' v')) (h63 : n + s.length ≤ 1000000000)
    (g : ∀ A c, G (.slice A (n + s.length) c) (Es' (.slice A (n + s.length) c)) h) : OpTo C l Es h ⟨dst, .call ⟨.builtin .append, #[x, y], #[t, u]⟩, ty, pos, aft, gd⟩ G := fun a w hs hp => by
  obtain ⟨i, hi, hi1, hi2, hi3⟩ := C.ok.info hE
  obtain ⟨D0, hu, hb0⟩ := C.ok.und hT
  rw [hTd] at hb0; rw [blank_slice hb0] at hu
  obtain ⟨D1, hu1, hb1⟩ := C.ok.und hU
  rw [hUd] at hb1; rw [blank_string hb1] at hu1
  obtain ⟨Ds, hown, hnod, hbd⟩ := hp.own
  obtain ⟨D, hA, hDn, hsub, _⟩ := (hR v).own hown hnod
  obtain ⟨v', w', hrun, h1, h2, h3, h4, hD⟩ := appStr_run (P := C.P) (ty := ty) hu hu1 hi (by rw [hi3, hEz]) (by rw [hi1, hEs]) (by rw [hi2, hEb]) hA s h63
  obtain ⟨D', hD1, _⟩ := id hD
  obtain ⟨A', c', rfl⟩ := growForm hD1
  refine .inl ⟨_, w', Es' _, h, ?_, ?_, g A' c'⟩
  · simp only [execOp, resolve, invoke, builtin, Sem.run_bind, Sem.run_pure, Result.andThen_ok, List.map_toArray, List.map_cons, List.map_nil, hs.eval hx, hs.eval hy, hrun]
  · refine hp.repl (hR _) h1 h2 h3 h4 (hdr := run_drawn _ hrun) fun D2 hA2 _ _ => ?_
    have : D2 = D := by
      rcases hA2.2 with ⟨e1, _, e2⟩ | ⟨g1, _, _, _, e1, e2, _⟩ <;> rcases hA.2 with ⟨e3, _, e4⟩ | ⟨g2, _, _, _, e3, e4, _⟩
      · rw [e2, e4]
      · rw [e1] at e3; cases e3
      · rw [e1] at e3; cases e3
      · rw [e1] at e3; injection e3 with e3 _; injection e3 with e3; injection e3 with e3; rw [e2, e4, e3]
    rw [this]; exact hD
theorem OpTo_appStrS {t u e : TypeId} {x y : Operand} {v : Value} {n : Nat} {xs : List Value} {s : List UInt8} {T U E : Ty} {Es' : Value → List Asn} (hT : tyOf t C.ts = some T) (hTd : T.desc = .slice e) (hU : tyOf u C.ts = some U) (hUd : U.desc = .string) (hE : tyOf e C.ts = some E) (hEz : E.zero = .int .u8 0) (hEs : E.size = 1) (hEb : E.bytes = 1)
    (hx : evl l x = some v) (hy : evl l y = some (.string (str s))) (hR : ∀ v', Repl Es (OwnS e 1 v n xs) (OwnS e 1 v' (n + s.length) (xs ++ s.flatMap encB)) (Es' v')) (h63 : n + s.length ≤ 1000000000)
    (g : ∀ A c, G (.slice A (n + s.length) c) (Es' (.slice A (n + s.length) c)) h) : OpTo C l Es h ⟨dst, .call ⟨.builtin .append, #[x, y], #[t, u]⟩, ty, pos, aft, gd⟩ G := fun a w hs hp => by
  obtain ⟨i, hi, hi1, hi2, hi3⟩ := C.ok.info hE
  obtain ⟨D0, hu, hb0⟩ := C.ok.und hT
  rw [hTd] at hb0; rw [blank_slice hb0] at hu
  obtain ⟨D1, hu1, hb1⟩ := C.ok.und hU
  rw [hUd] at hb1; rw [blank_string hb1] at hu1
  obtain ⟨Ds, hown, hnod, hbd⟩ := hp.own
  obtain ⟨D, hA, hDn, hsub, _⟩ := (hR v).own hown hnod
  obtain ⟨v', w', hrun, h1, h2, h3, h4, D', hD1, hD2, hD3, hD4⟩ := appStr_run (P := C.P) (f := false) (ty := ty) hu hu1 hi (by rw [hi3, hEz]) (by rw [hi1, hEs]) (by rw [hi2, hEb]) (OwnP_of D _ hA) s h63
  obtain ⟨A', c', rfl⟩ := growForm hD1
  refine .inl ⟨_, w', Es' _, h, ?_, ?_, g A' c'⟩
  · simp only [execOp, resolve, invoke, builtin, Sem.run_bind, Sem.run_pure, Result.andThen_ok, List.map_toArray, List.map_cons, List.map_nil, hs.eval hx, hs.eval hy, hrun]
  · refine hp.repl (hR _) h1 h2 h3 h4 (hdr := run_drawn _ hrun) fun D2 hA2 _ _ => ?_
    have : D2 = D := by
      rcases hA2.2 with ⟨e1, _, e2⟩ | ⟨g1, _, _, e1, e2, _⟩ <;> rcases hA.2 with ⟨e3, _, e4⟩ | ⟨g2, _, _, e3, e4, _⟩
      · rw [e2, e4]
      · rw [e1] at e3; cases e3
      · rw [e1] at e3; cases e3
      · rw [e1] at e3; injection e3 with e3 _; injection e3 with e3; injection e3 with e3; rw [e2, e4, e3]
    rw [this]; exact ⟨D', OwnS_of _ _ hD1, hD2, hD3, hD4⟩
/-! #### Maps -/
theorem OV_lenMap {κ α : Type} {ek : κ → Value} {ev : α → Value} {t k e : TypeId} {x : Operand} {b : Nat} {m : List (κ × α)} {T : Ty} (hT : tyOf t C.ts = some T) (hTd : T.desc = .map k e) (hx : evl l x = some (.map (some b))) :
    OV C l [MapA ek ev b m] h ⟨dst, .call ⟨.builtin .len, #[x], #[t]⟩, ty, pos, aft, gd⟩ (.int .i64 m.length) :=
  ⟨rfl, fun a w hs hn _ => by
    obtain ⟨D, hD⟩ := hn _ (.head _)
    obtain ⟨_, es, clock, hm, he, _⟩ := hD
    obtain ⟨D0, hu, hb0⟩ := C.ok.und hT
    rw [hTd] at hb0
    rw [blank_map hb0] at hu
    have hl : es.size = m.length := by have := congrArg List.length he; simpa using this
    have hm' : w.heap[b]? = some (.map es clock) := hm
    have hx2 := hs.eval hx
    simp [execOp, resolve, invoke, builtin, Builtin.len_, hx2, run_underlying hu, MapKept.run_getObj_map hm', goInt, hl]⟩
/-! #### Calls of function values that are handed memory -/
theorem OpTo_callPF {c : Operand} {xs : Array Operand} {tys : Array TypeId} {f : FuncId} {fs cs vs : List Value} {Es0 Fs : List Asn} {Post : Value → List Asn → Ro → Prop}
    (hc : evl l c = some (.func (.func f) fs.toArray cs.toArray)) (hxs : evlL l xs.toList = some vs) (hh : Has C.P f) (hf : Fn C.P f (fs ++ vs ++ cs).toArray Es0 h Post) (hp : Takes Es Es0 Fs)
    (g : ∀ v Es' h', Le h h' → Post v Es' h' → G v (Es' ++ Fs) h') : OpTo C l Es h ⟨dst, .call ⟨.value c, xs, tys⟩, ty, pos, aft, gd⟩ G :=
  OpTo_perm hp.perm (OpTo_call' (Fs := Fs) hc hxs rfl hh hf g)
end
/-! #### A guarded operation of a drawn region that does not run, where the plan would meet it -/
section
variable {C : Ctx} {ds : List Deferred} {l0 l' : Sl} {Vs : List Dn} {Es : List Asn} {h : Ro} {os : List Oper} {K : List Item} {pl : List (Nat × Nat)} {d : Tmp} {ty : TypeId} {pos : String} {aft : Array Edge} {gd : Option (Nat × Bool)} {i : Nat}
theorem GP_un1 {op : Op} (ho : lnth i os = some ⟨some d, op, ty, pos, aft, gd⟩) (hc : canB Vs i ⟨some d, op, ty, pos, aft, gd⟩ = true) (hl : pickF (opSlots os.toArray ⟨some d, op, ty, pos, aft, gd⟩) (sl Vs l0) = some l')
    (hg : wantedB os.toArray l' gd = some false) (g : GDp pl C ds l0 (⟨i, some d, undef, [], true⟩ :: Vs) Es h os.toArray K) : GDp ((i, 1) :: pl) C ds l0 Vs Es h os.toArray K :=
  GP_un (pl := pl) ho hc hl hg g
theorem GP_split1 {o : Oper} {s : Nat} {b c : Bool} {Vt Vf : List Dn} (ho : lnth i os = some o) (hg : guardSlot os.toArray o.guard = some (s, b)) (hc : look s (sl Vs l0) = some (.bool c)) (h1 : setV s (.bool true) Vs = some Vt) (h2 : setV s (.bool false) Vs = some Vf)
    (ht : c = true → GDp ((i, 1) :: pl) C ds l0 Vt Es h os.toArray K) (hf : c = false → GDp ((i, 1) :: pl) C ds l0 Vf Es h os.toArray K) : GDp ((i, 1) :: pl) C ds l0 Vs Es h os.toArray K :=
  GP_split (pl := pl) ho hg hc h1 h2 ht hf
end
end Go.Hw
/-
  Hw, part Zb: contracts of the library's own (a call that leaves the world as it was; formatBase10), slices of arrays.
-/
set_option linter.unusedVariables false
namespace Go.Hw
open Go

theorem Hp.start {w : World} {X0 : List Nat} {h0 : Ro} {Es0 : List Asn} (hl : Le h0 (mem w)) (ho : ∃ Ds : List (List Nat), Own Es0 Ds (mem w) ∧ Ds.flatten.Nodup ∧ ∀ b ∈ Ds.flatten, h0 b = none ∧ b ∈ X0 ∧ b < w.heap.size) : Hp w X0 h0 Es0 h0 w := by
  obtain ⟨Ds, h1, h2, h3⟩ := ho
  exact ⟨rfl, rfl, rfl, Nat.le_refl _, Nat.le_refl _, fun _ _ _ => rfl, hl, Le.refl _, fun i o e => .inl e, Ds, h1, h2, fun b hb => ⟨(h3 b hb).1, .inr (h3 b hb).2.1, (h3 b hb).2.2⟩⟩
theorem Val_of_calls {P : Program} {f : FuncId} {args : Array Value} {h : Ro} {v : Value} (hc : ∀ w, Le h (mem w) → Calls P f args w fun e w' => e = .returned v ∧ w' = w) : Val P f args h v := by
  intro w X0 hl ho
  refine (hc w hl).mono ?_
  rintro e w' ⟨rfl, rfl⟩
  exact ⟨v, rfl, [], h, ⟨rfl, rfl⟩, Hp.start hl ho⟩

/-- A package variable's cells, as they are laid. -/
def VarG (P : Program) (h : Ro) (name : String) (cs : List Value) : Prop := ∃ g t fz, P.globalNamed name = some g ∧ h g = some (.cells cs.toArray t fz)
theorem VarG.le {P : Program} {h h' : Ro} {name : String} {cs : List Value} (v : VarG P h name cs) (hl : Le h h') : VarG P h' name cs := by
  obtain ⟨g, t, fz, h1, h2⟩ := v
  exact ⟨g, t, fz, h1, hl _ _ h2⟩
theorem VarG.tab {P : Program} {h : Ro} {name : String} {k : IntKind} {zs : List Int} (v : VarG P h name (zs.map fun z => .int k z)) {w : World} (hl : Le h (mem w)) : Lib.TabIs P w name k zs := by
  obtain ⟨g, t, fz, h1, h2⟩ := v
  have h3 : w.heap[g]? = _ := hl _ _ h2
  unfold Lib.TabIs World.var?
  rw [h1, Option.bind_some, h3]

/-- formatBase10: the numeral is written over the row's first cells. -/
theorem fmtFn {P : Program} {f : FuncId} (hC : ∀ (blk off cap : Nat) (u : Nat) (d : Array UInt8) (w : World), Sort.Holds (fun (b : UInt8) => Value.int .u8 (b.toNat : Int)) w blk off d → u < 10 ^ d.size → u < 18446744073709551616 → d.size < 4611686018427387904 →
      Calls P f #[.slice (some ⟨blk, off, none⟩) d.size cap, .int .u64 u] w fun e w' => e = .returned (.tuple #[]) ∧ ∃ (n v' : Nat) (dk : Array UInt8), w' = (Sort.putRow (fun (b : UInt8) => Value.int .u8 (b.toNat : Int)) w blk off dk).drewN n ∧ Lib.FmtInv d.size u 0 v' dk)
    (h : Ro) (b T cap u n : Nat) (r : List Value) (hu1 : 1 ≤ u) (hu : u < 18446744073709551616) (hn : n = Lib.nDigits u) :
    Fn P f #[.slice (some ⟨b, 0, none⟩) n cap, .int .u64 u] [Blk b T ((List.replicate n (Value.int .u8 0)) ++ r)] h fun v Es _ => v = .tuple #[] ∧ Es = [Blk b T ((Lib.decDigits u).flatMap encB ++ r)] := by
  subst hn
  have hdl : (Lib.decDigits u).length = Lib.nDigits u := Lib.decDigits_length u
  have hn20 : Lib.nDigits u ≤ 20 := by have := Lib.numDigits_eq u hu1 hu; split at this <;> omega
  intro w X0 hl ho
  have H0 := Hp.start hl ho
  have hm : w.heap[b]? = some (.cells ((List.replicate (Lib.nDigits u) (Value.int .u8 0)) ++ r).toArray T (0, 0)) := H0.blk (List.Mem.head _)
  have hlt : b < w.heap.size := (Array.getElem?_eq_some_iff.1 hm).1
  have hc := hC b 0 cap u (Array.replicate (Lib.nDigits u) 0) w (fun j hj => by
    rw [Array.size_replicate] at hj
    refine ⟨?_, by simp [World.frozen?, hm]⟩
    simp only [World.cell?, hm, Nat.zero_add]
    simp [hj, List.getElem?_append_left]) (by rw [Array.size_replicate]; exact Lib.lt_pow_nDigits u) hu (by rw [Array.size_replicate]; omega)
  rw [Array.size_replicate] at hc
  refine hc.mono ?_
  rintro e w' ⟨rfl, k, v', dk, rfl, hF⟩
  refine ⟨_, rfl, _, h, ⟨rfl, rfl⟩, H0.repl .here rfl rfl rfl (by show w.heap.size ≤ (w.heap.modify b _).size; simp) fun D hA _ _ => ?_⟩
  obtain ⟨rfl, _⟩ := hA
  refine ⟨[b], ⟨rfl, ?_⟩, by simp, fun c hcm => ?_, fun i hi hni => ?_⟩
  · show (w.heap.modify b (Sort.onCells (Sort.putCells _ 0 dk)))[b]? = _
    rw [Array.getElem?_modify, if_pos rfl, hm]
    simp only [Option.map_some, Sort.onCells]
    congr 2
    apply Array.ext_getElem?
    intro j
    simp only [Sort.putCells, Array.getElem?_mapIdx, List.getElem?_toArray, Nat.zero_le, true_and, Nat.zero_add, Nat.sub_zero, hF.size]
    by_cases hj : j < Lib.nDigits u
    · rw [List.getElem?_append_left (by simpa using hj), List.getElem?_append_left (by rw [encB_cells, List.length_map]; omega), encB_cells, List.getElem?_map]
      have hj2 : j < (Lib.decDigits u).length := by omega
      rw [List.getElem?_eq_getElem hj2, List.getElem?_replicate, if_pos hj]
      simp only [Option.map_some, hj, if_true]
      rw [Lib.row_is_numeral hF j hj2]
    · rw [List.getElem?_append_right (by simpa using hj), List.getElem?_append_right (by rw [encB_cells, List.length_map]; omega), encB_cells, List.length_map, List.length_replicate, hdl]
      cases r[j - Lib.nDigits u]? with
      | none => rfl
      | some x => simp [hj]
  · simp only [List.mem_singleton] at hcm
    subst hcm
    exact ⟨.inl (by simp), by show c < (w.heap.modify c _).size; simpa using hlt⟩
  · have hne : b ≠ i := fun e => hni (by simp [e])
    show (w.heap.modify b _)[i]? = _
    rw [Array.getElem?_modify, if_neg hne]

section
variable {C : Ctx} {l : Sl} {Es : List Asn} {h : Ro} {G : Value → List Asn → Ro → Prop} {ty : TypeId} {pos : String} {aft : Array Edge} {gd : Option (Nat × Bool)} {dst : Option Tmp}
/-- 'a[:n]' of an array in memory. -/
theorem OV_sliceArr {t e m : TypeId} {x y : Operand} {b n : Nat} {k : IntKind} {i : Int} {T E : Ty} (hT : tyOf t C.ts = some T) (hTd : T.desc = .array m e) (hE : tyOf e C.ts = some E) (hx : evl l x = some (.pointer (some ⟨b, 0, none⟩))) (hy : evl l y = some (.int k i)) (hi : i = (n : Int)) (hn : n ≤ m) :
    OV C l [] h ⟨dst, .slice t x none (some y) none, ty, pos, aft, gd⟩ (.slice (some ⟨b, 0, none⟩) n m) :=
  ⟨rfl, fun a w hs _ _ => by
    obtain ⟨D0, hu, hb0⟩ := C.ok.run_und hT
    have hu := hu w
    rw [hTd] at hb0
    rw [blank_array hb0] at hu
    subst hi
    have hb : (0 : Int) ≤ (n : Int) ∧ (n : Int) ≤ (m : Int) := ⟨by omega, by omega⟩
    have e0 : (⟨b, 0, none⟩ : Addr).add (0 * E.size) = ⟨b, 0, none⟩ := by rw [add_off]; simp
    simp only [execOp, hs.eval hx, hs.eval hy, Option.map_none, Option.map_some, Instr.sliceAt, Instr.sureAddr, Instr.sliceBounds, Instr.sliceBound, asIntOf, Sem.run_bind, Sem.run_pure, Result.andThen_ok, hu, Sem.run_ite, hb, and_self, if_true, C.ok.run_size hE, Int.toNat_natCast, Nat.sub_zero, e0, ite_self]⟩
/-- An element of an array value. -/
theorem OV_arrIdx {t e m : TypeId} {x y : Operand} {j : Nat} {k : IntKind} {i : Int} {cs : Array Value} {v : Value} {T E : Ty} (hT : tyOf t C.ts = some T) (hTd : T.desc = .array m e) (hE : tyOf e C.ts = some E) (hx : evl l x = some (.agg cs)) (hy : evl l y = some (.int k i)) (hi : i = (j : Int)) (hj : j < m)
    (hv : pvPart (j * E.size) E.size E.agg cs.toList = some v) : OV C l [] h ⟨dst, .index t x y, ty, pos, aft, gd⟩ v :=
  ⟨rfl, fun a w hs _ _ => by
    obtain ⟨D0, hu, hb0⟩ := C.ok.run_und hT
    have hu := hu w
    rw [hTd] at hb0
    rw [blank_array hb0] at hu
    subst hi
    have hb : (0 : Int) ≤ (j : Int) ∧ (j : Int) < (m : Int) := ⟨by omega, by omega⟩
    have hp := pvPart_ok (P := C.P) (ty := e) hv w (C.ok.run_size hE w) (C.ok.run_agg hE w)
    simp only [execOp, hs.eval hx, hs.eval hy, Instr.index, asIntOf, Sem.run_bind, Sem.run_pure, Result.andThen_ok, hu, Sem.run_ite, hb, and_self, if_true, C.ok.run_size hE, Int.toNat_natCast, hp, Array.toArray_toList]⟩
end
end Go.Hw
/-
  Hw, part Zc: a store into a row of the call's own; append whose answer's base is told; the cells of an array as a slice.
-/
set_option linter.unusedVariables false
namespace Go.Hw
open Go
section
variable {C : Ctx} {l : Sl} {Es : List Asn} {h : Ro} {G : Value → List Asn → Ro → Prop} {ty : TypeId} {pos : String} {aft : Array Edge} {gd : Option (Nat × Bool)} {dst : Option Tmp} {d : Tmp}
theorem OwnS_base {e sz : Nat} {A : Option Addr} {n c : Nat} {xs : List Value} {D : List Nat} {m : Ro} (hn : 0 < n) (H : (OwnS e sz (.slice A n c) n xs).holds D m) : ∃ g, A = some ⟨g, 0, none⟩ := by
  rcases H.2 with ⟨_, h0, _⟩ | ⟨g, cap, cur, h1, _⟩
  · omega
  · injection h1 with h1 _ _; exact ⟨g, h1⟩
/-- append(xs, ys...), the grown row's base told. -/
theorem OpTo_appendG {α : Type} {enc : α → List Value} {x y : Operand} {t e : TypeId} {v : Value} {n m c : Nat} {xs ys : List α} {A : Option Addr} {T E : Ty} {Es' : Value → List Asn} (hT : tyOf t C.ts = some T) (hTd : T.desc = .slice e) (hE : tyOf e C.ts = some E)
    (hz : E.zero.cells.size = E.size) (hsz : Nat.blt 0 E.size = true) (hx : evl l x = some v) (hy : evl l y = some (.slice A m c)) (hm : SlOf enc E.size h A m ys) (hl : ∀ x, (enc x).length = E.size) (h1 : ∀ x, ∀ u ∈ enc x, u.oneCell' = true)
    (hR : ∀ v', Repl Es (OwnS e E.size v n (xs.flatMap enc)) (OwnS e E.size v' (n + m) ((xs ++ ys).flatMap enc)) (Es' v')) (h63 : n + m ≤ 1000000000) (hby : Nat.ble E.bytes 100000 = true) (hm0 : 0 < m)
    (hmem : ∀ v', OwnS e E.size v' (n + m) ((xs ++ ys).flatMap enc) ∈ Es' v')
    (g : ∀ b c', G (.slice (some ⟨b, 0, none⟩) (n + m) c') (Es' (.slice (some ⟨b, 0, none⟩) (n + m) c')) h) : OpTo C l Es h ⟨some d, .call ⟨.builtin .append, #[x, y], #[t, t]⟩, ty, pos, aft, gd⟩ G :=
  OpTo_imp (G' := fun v' Es2 h' => h' = h ∧ ∃ A' c', v' = .slice A' (n + m) c' ∧ Es2 = Es' v') (OpTo_appendS hT hTd hE hz hsz hx hy hm hl h1 hR h63 hby fun A' c' => ⟨rfl, A', c', rfl, rfl⟩) fun v' Es2 h' w' H ⟨e1, A', c', e2, e3⟩ => by
    subst e1; subst e2; subst e3
    obtain ⟨D, hD⟩ := H.get (hmem _)
    obtain ⟨b, rfl⟩ := OwnS_base (by omega) hD
    exact ⟨_, _, H, g b c'⟩
/-- A store into a row of the call's own. -/
theorem OpTo_storeS {t e sz : Nat} {x y : Operand} {b off n c : Nat} {v : Value} {xs ys : List Value} {Es' : List Asn} {T : Ty}
    (hT : tyOf t C.ts = some T) (hx : evl l x = some (.pointer (some ⟨b, off, none⟩))) (hy : evl l y = some v) (hR : Repl Es (OwnS e sz (.slice (some ⟨b, 0, none⟩) n c) n xs) (OwnS e sz (.slice (some ⟨b, 0, none⟩) n c) n ys) Es')
    (hys : ys = xs.take off ++ partL v ++ xs.drop (off + (partL v).length)) (hoff : off + (partL v).length ≤ xs.length)
    (hl : Nat.beq (partL v).length T.size = true) (h1 : allOne (partL v) = true) (g : G undef Es' h) : OpTo C l Es h ⟨none, .store t x y, ty, pos, aft, gd⟩ G := by
  intro a w hs hp
  have hlen := Nat.eq_of_beq_eq_true hl
  obtain ⟨Ds, hown, hnod, hbd⟩ := hp.own
  obtain ⟨D, hA, hDn, hsub, _⟩ := hR.own hown hnod
  obtain ⟨hxl, hr⟩ := hA
  rcases hr with ⟨h0, _⟩ | ⟨g', cap, cur, h2, h3, h4, h5, h6, h7, h8⟩
  · cases h0
  · injection h2 with h2 _ h23
    injection h2 with h2; injection h2 with h2
    subst h2; subst h23
    have hb' : w.heap[b]? = some (.cells cur e (0, 0)) := h4
    have hcl : n * sz ≤ cur.size := by rw [h7]; exact Nat.mul_le_mul_right _ h5
    have hfit : off + 0 + (partL v).length ≤ cur.size := by omega
    have hrun : (storeVar t ⟨b, off, none⟩ v).run C.P w = .ok () (w.setRow b (cur.toList.take off ++ partL v ++ cur.toList.drop (off + (partL v).length)).toArray) := by
      have hst := run_storeCells_at (P := C.P) b off e (partL v) 0 cur w hb' hfit (allOne_ok h1)
      rw [Nat.add_zero] at hst
      simp only [storeVar, Sem.run_bind, C.ok.run_size hT, Result.andThen_ok, partL_ok, List.size_toArray]
      rw [if_neg (by simp [hlen])]
      simpa using hst
    refine .inr (.inl ⟨w.setRow b (cur.toList.take off ++ partL v ++ cur.toList.drop (off + (partL v).length)).toArray, Es', h, by simp only [execOp, hs.eval hx, hs.eval hy, Instr.storeAt, Instr.sureAddr, Sem.run_bind, Sem.run_pure, Result.andThen_ok, hrun], ?_, g⟩)
    refine hp.repl hR rfl rfl rfl (by simp [World.setRow]) fun D2 hA2 hDn2 hDl2 => ?_
    have hD2 : D2 = [b] := by
      rcases hA2.2 with ⟨q, _⟩ | ⟨g2, _, _, q1, q2, _⟩
      · cases q
      · injection q1 with q1 _ _; injection q1 with q1; injection q1 with q1; rw [q2, q1]
    subst hD2
    refine ⟨[b], ⟨?_, .inr ⟨b, c, _, rfl, rfl, setRow_heap w b cur _ e (0, 0) hb', h5, h6, ?_, ?_⟩⟩, by simp, fun q hq => ⟨.inl hq, by have := hDl2 q hq; simpa [World.setRow] using this⟩, fun i hi hni => ?_⟩
    · rw [hys, ← hxl]; simp only [List.length_append, List.length_take, List.length_drop]; omega
    · simp only [List.size_toArray, List.length_append, List.length_take, List.length_drop, Array.length_toList]
      rw [← h7]; omega
    · rw [hys, ← h8]
      apply List.ext_getElem?
      intro j
      rw [List.getElem?_take]
      have hL1 : (cur.toList.take off).length = off := by rw [List.length_take, Array.length_toList]; omega
      have hL2 : ((cur.toList.take (n * sz)).take off).length = off := by rw [List.length_take, List.length_take, Array.length_toList]; omega
      by_cases hj : j < n * sz
      · rw [if_pos hj]
        by_cases hj1 : j < off
        · rw [List.append_assoc, List.append_assoc, List.getElem?_append_left (by omega), List.getElem?_append_left (by omega), List.getElem?_take, List.getElem?_take, List.getElem?_take, if_pos hj1, if_pos hj1, if_pos hj]
        · have ap : ∀ (p r : List Value), p.length = off → (p ++ r)[j]? = r[j - off]? := fun p r hp => by rw [List.getElem?_append_right (by omega), hp]
          rw [List.append_assoc, List.append_assoc, ap _ _ hL1, ap _ _ hL2]
          by_cases hj2 : j - off < (partL v).length
          · rw [List.getElem?_append_left hj2, List.getElem?_append_left hj2]
          · have ap2 : ∀ (r : List Value), (partL v ++ r)[j - off]? = r[j - off - (partL v).length]? := fun r => List.getElem?_append_right (by omega)
            rw [ap2, ap2, List.getElem?_drop, List.getElem?_drop, List.getElem?_take, if_pos (by omega)]
      · rw [if_neg hj, List.getElem?_eq_none]
        simp only [List.length_append, List.length_take, List.length_drop, Array.length_toList]
        omega
    · have : i ≠ b := fun e => hni (by simp [e])
      exact setRow_other w b i _ this
/-- 'a[:]' of an array in memory. -/
theorem OV_sliceAll {t e m : TypeId} {x : Operand} {b off : Nat} {T E : Ty} (hT : tyOf t C.ts = some T) (hTd : T.desc = .array m e) (hE : tyOf e C.ts = some E) (hx : evl l x = some (.pointer (some ⟨b, off, none⟩))) :
    OV C l [] h ⟨dst, .slice t x none none none, ty, pos, aft, gd⟩ (.slice (some ⟨b, off, none⟩) m m) :=
  ⟨rfl, fun a w hs _ _ => by
    obtain ⟨D0, hu, hb0⟩ := C.ok.run_und hT
    have hu := hu w
    rw [hTd] at hb0
    rw [blank_array hb0] at hu
    have e0 : (⟨b, off, none⟩ : Addr).add (0 * E.size) = ⟨b, off, none⟩ := by rw [add_off]; simp
    simp only [execOp, hs.eval hx, Option.map_none, Instr.sliceAt, Instr.sureAddr, Instr.sliceBounds, Sem.run_bind, Sem.run_pure, Result.andThen_ok, hu, C.ok.run_size hE, Nat.sub_zero, e0, ite_self]⟩
end
theorem flat_set {α : Type} {enc : α → List Value} {sz : Nat} (hl : ∀ x, (enc x).length = sz) (l : List α) (z x : α) :
    (l ++ [x]).flatMap enc = ((l ++ [z]).flatMap enc).take (l.length * sz) ++ enc x ++ ((l ++ [z]).flatMap enc).drop (l.length * sz + (enc x).length) := by
  have h1 : (l.flatMap enc).length = l.length * sz := flatMap_len hl l
  rw [List.flatMap_append, List.flatMap_append, ← h1, List.take_left]
  have h2 : List.drop ((l.flatMap enc).length + (enc x).length) (l.flatMap enc ++ List.flatMap enc [z]) = [] := by
    apply List.drop_eq_nil_of_le
    simp [hl]
  rw [h2]
  simp
end Go.Hw
/-
  Hw, part Zd: calls of functions that have no Go body: bytealg.Compare.
-/
set_option linter.unusedVariables false
namespace Go.Hw
open Go
theorem run_bytes {P : Program} {w : World} {h : Ro} (hl : Le h (mem w)) {ad : Addr} : ∀ (l : List UInt8) (k : Nat) (acc : List UInt8), (∀ j x, l[j]? = some x → cellR h (ad.add (k + j)) = some (.int .u8 x.toNat)) →
    (Extern.Bytes.loadBytes (ad.add k) l.length ⟨acc.toArray⟩).run P w = .ok ⟨(acc ++ l).toArray⟩ w
  | [], k, acc, _ => by simp [Extern.Bytes.loadBytes]
  | x :: l, k, acc, hc => by
    have h0 := hc 0 x rfl
    have h1 : w.cell? (ad.add k) = some (.int .u8 x.toNat) := by rw [cell?_mem]; exact cellR_le hl h0
    have ih := run_bytes (P := P) hl l (k + 1) (acc ++ [x]) fun j y hj => by
      have := hc (j + 1) y (by simpa using hj)
      rw [show k + (j + 1) = k + 1 + j by omega] at this
      exact this
    have hx : ((x.toNat : Int).toNat).toUInt8 = x := by simp
    have hp : (⟨acc.toArray⟩ : ByteArray).push x = ⟨(acc ++ [x]).toArray⟩ := by simp [ByteArray.push]
    simp only [List.length_cons, Extern.Bytes.loadBytes, Sem.run_bind, run_load, h1, Result.andThen]
    rw [addr_add_add, hx, hp, ih]
    simp
theorem run_bytesOf {P : Program} {w : World} {h : Ro} (hl : Le h (mem w)) {A : Option Addr} {n c : Nat} {l : List UInt8} (hx : SlOf encB 1 h A n l) : (Extern.Bytes.bytesOf (.slice A n c)).run P w = .ok ⟨l.toArray⟩ w := by
  have hlen := hx.len
  cases A with
  | none =>
    have : l = [] := by
      cases l with
      | nil => rfl
      | cons a l =>
        have := hx.addrD (k := 0) (by rw [← hlen]; simp)
        cases this
    subst this
    simp [Extern.Bytes.bytesOf]; rfl
  | some ad =>
    have hc : ∀ j x, l[j]? = some x → cellR h (ad.add (0 + j)) = some (.int .u8 x.toNat) := fun j x hj => by
      have hjn := (List.getElem?_eq_some_iff.1 hj).1
      have := (hx.cellsD 0 (k := j) (by omega)) 0 (.int .u8 x.toNat) (by
        rw [show l.getD j 0 = x by simp [List.getD, hj]]; rfl)
      rw [addr_add_add] at this
      simpa [addrD] using this
    have := run_bytes (P := P) hl l 0 [] hc
    rw [hlen, show ad.add 0 = ad by simp [Addr.add]] at this
    exact this
/-- A call of a function without a Go body. -/
theorem OV_ext {C : Ctx} {l : Sl} {h : Ro} {ty : TypeId} {pos : String} {aft : Array Edge} {gd : Option (Nat × Bool)} {dst : Option Tmp} {xs : Array Operand} {tys : Array TypeId} {f : FuncId} {fn : Func} {e : Array Value → Sem Value} {vs : List Value} {v : Value}
    (hxs : evlL l xs.toList = some vs) (hf : C.P.funcs[f]? = some fn) (hname : (fn.name == "runtime.NumGoroutine") = false)
    (hb : fn.body.isNone = true) (hn : Extern.findNext fn = none) (he : Extern.find fn = some e) (hv : ∀ w, Le h (mem w) → (e vs.toArray).run C.P w = .ok v w) :
    OV C l [] h ⟨dst, .call ⟨.value (.func f), xs, tys⟩, ty, pos, aft, gd⟩ v := by
  refine ⟨rfl, fun a w hs _ hm => ?_⟩
  have e1 := evlL_ok hs hxs
  have q1 : xs.map a.eval = vs.toArray := by rw [← e1]; apply Array.ext'; simp
  have e2 : a.eval (.func f) = .func (.func f) #[] #[] := rfl
  simp only [execOp, resolve, e2, Deferred.ofValue, Sem.run_bind, Sem.run_pure, Result.andThen_ok, invoke, q1]
  rw [show #[] ++ vs.toArray ++ #[] = vs.toArray by simp]
  rw [run_callFunc_extern hf hname hb hn he, hv w hm]
  rfl
end Go.Hw

/-
  Hw, part B: the state: slots, owned assertions, the part of memory that is only read.
-/
import Derived.Test.YtbgjcjhodlmgjaaHwA
set_option linter.unusedVariables false
namespace Go.Hw
open Go

/-! ### Slots -/
abbrev Sl := List (Nat × Value)
def look (i : Nat) : Sl → Option Value
  | [] => none
  | (j, v) :: r => bif Nat.beq i j then some v else look i r
def evl (l : Sl) : Operand → Option Value
  | .tmp t => look t l
  | .const v => some v
  | .global g => some (.pointer (some ⟨g, 0, none⟩))
  | .func f => some (.func (.func f) #[] #[])

theorem look_cons_same {i : Nat} {v : Value} {l : Sl} : look i ((i, v) :: l) = some v := by simp [look, Nat.beq_refl]
theorem look_cons_ne {i j : Nat} {v : Value} {l : Sl} (h : i ≠ j) : look i ((j, v) :: l) = look i l := by
  have : Nat.beq i j = false := by
    cases hb : Nat.beq i j with
    | false => rfl
    | true => exact absurd (Nat.eq_of_beq_eq_true hb) h
  simp [look, this]

def SlotsOk (l : Sl) (a : Act) : Prop := ∀ i v, look i l = some v → a.tmps[i]? = some v

theorem SlotsOk.eval {l : Sl} {a : Act} (h : SlotsOk l a) {x : Operand} {v : Value} (hx : evl l x = some v) : a.eval x = v := by
  cases x with
  | tmp t => simp only [Act.eval, evl] at *; simp [Array.getD_eq_getD_getElem?, h t v hx]
  | const u => simpa [Act.eval, evl] using hx
  | global g => simpa [Act.eval, evl] using hx
  | func f => simpa [Act.eval, evl] using hx

theorem SlotsOk.put {l : Sl} {a : Act} (h : SlotsOk l a) {d : Nat} (hd : d < a.tmps.size) (v : Value) : SlotsOk ((d, v) :: l) (a.put (some d) v) := by
  intro i u hu
  simp only [Act.put]
  by_cases hi : i = d
  · subst hi
    rw [look_cons_same] at hu
    injection hu with hu
    subst hu
    simp [hd]
  · rw [look_cons_ne hi] at hu
    rw [Array.getElem?_setIfInBounds_ne (Ne.symm hi)]
    exact h i u hu

theorem SlotsOk.sub {l l' : Sl} {a : Act} (h : SlotsOk l a) (hs : ∀ i v, look i l' = some v → look i l = some v) : SlotsOk l' a := fun i v hv => h i v (hs i v hv)

/-! ### Memory -/
abbrev Ro := Nat → Option Obj
def mem (w : World) : Ro := fun i => w.heap[i]?
def Le (h h' : Ro) : Prop := ∀ i o, h i = some o → h' i = some o
theorem Le.refl (h : Ro) : Le h h := fun _ _ e => e
theorem Le.trans {a b c : Ro} (h : Le a b) (k : Le b c) : Le a c := fun i o e => k i o (h i o e)

/-- An owned assertion: what it says of the blocks in its list, and of no other. -/
structure Asn where
  holds : List Nat → Ro → Prop
  loc : ∀ D m m', (∀ b ∈ D, m b = m' b) → holds D m → holds D m'

/-- One block, known whole. -/
def Blk (b : Nat) (T : TypeId) (cs : List Value) : Asn :=
  ⟨fun D m => D = [b] ∧ m b = some (.cells cs.toArray T (0, 0)), fun D m m' h ⟨hd, hm⟩ => ⟨hd, by rw [← h b (by simp [hd])]; exact hm⟩⟩

/-- One block that is any object o with p o. -/
def ObjA (b : Nat) (p : Obj → Prop) : Asn :=
  ⟨fun D m => D = [b] ∧ ∃ o, m b = some o ∧ p o, fun D m m' h ⟨hd, o, hm, hp⟩ => ⟨hd, o, by rw [← h b (by simp [hd])]; exact hm, hp⟩⟩

/-- A slice value of the call's own: nil, or it begins a row; its first cells are xs. -/
def OwnS (e : TypeId) (sz : Nat) (v : Value) (n : Nat) (xs : List Value) : Asn :=
  ⟨fun D m => xs.length = n * sz ∧ ((v = .slice none 0 0 ∧ n = 0 ∧ D = []) ∨
      ∃ g cap cur, v = .slice (some ⟨g, 0, none⟩) n cap ∧ D = [g] ∧ m g = some (.cells cur e (0, 0)) ∧ n ≤ cap ∧ cap ≤ maxLen ∧ cur.size = cap * sz ∧ cur.toList.take (n * sz) = xs),
   fun D m m' h ⟨hl, hr⟩ => ⟨hl, hr.imp id fun ⟨g, cap, cur, h1, h2, h3, h4⟩ => ⟨g, cap, cur, h1, h2, by rw [← h g (by simp [h2])]; exact h3, h4⟩⟩⟩

def Own : List Asn → List (List Nat) → Ro → Prop
  | [], [], _ => True
  | A :: Es, D :: Ds, m => A.holds D m ∧ Own Es Ds m
  | _, _, _ => False

theorem Own.loc : ∀ {Es : List Asn} {Ds : List (List Nat)} {m m' : Ro}, (∀ b ∈ Ds.flatten, m b = m' b) → Own Es Ds m → Own Es Ds m'
  | [], [], _, _, _, _ => trivial
  | A :: Es, D :: Ds, m, m', h, ⟨h1, h2⟩ => ⟨A.loc D m m' (fun b hb => h b (by simp [hb])) h1, Own.loc (fun b hb => h b (by simp only [List.flatten_cons, List.mem_append]; exact .inr hb)) h2⟩
  | [], _ :: _, _, _, _, h => h.elim
  | _ :: _, [], _, _, _, h => h.elim

/-- The memory of a call under way: 'w0' the world in which it began, 'X0' the blocks that it was handed to write, 'h0' what it was told of memory; 'Es' what it owns now, 'h' what it may read. -/
structure Hp (w0 : World) (X0 : List Nat) (h0 : Ro) (Es : List Asn) (h : Ro) (w : World) : Prop where
  os : w.os = w0.os
  tape : w.tape = w0.tape
  output : w.output = w0.output
  size : w0.heap.size ≤ w.heap.size
  old : ∀ i, i < w0.heap.size → i ∉ X0 → w.heap[i]? = w0.heap[i]?
  ro : Le h (mem w)
  le : Le h0 h
  new : ∀ i o, h i = some o → h0 i = some o ∨ w0.heap.size ≤ i ∨ i ∈ X0
  own : ∃ Ds : List (List Nat), Own Es Ds (mem w) ∧ Ds.flatten.Nodup ∧ ∀ b ∈ Ds.flatten, h b = none ∧ (w0.heap.size ≤ b ∨ b ∈ X0) ∧ b < w.heap.size

theorem Le.lt {h : Ro} {w : World} (hr : Le h (mem w)) {i : Nat} {o : Obj} (e : h i = some o) : i < w.heap.size := by
  have := hr i o e
  rcases Nat.lt_or_ge i w.heap.size with hl | hg
  · exact hl
  · simp [mem, Array.getElem?_eq_none hg] at this

section hp
variable {w0 : World} {X0 : List Nat} {h0 h : Ro} {Es : List Asn} {w : World}

theorem Hp.drew (H : Hp w0 X0 h0 Es h w) : Hp w0 X0 h0 Es h { w with drawn := w.drawn + 1 } := ⟨H.os, H.tape, H.output, H.size, H.old, H.ro, H.le, H.new, H.own⟩

/-- A step that changes owned blocks alone, and adds new ones: the general form. -/
theorem Hp.turn {w' : World} {Es' : List Asn} (H : Hp w0 X0 h0 Es h w) (hos : w'.os = w.os) (htape : w'.tape = w.tape) (hout : w'.output = w.output) (hsize : w.heap.size ≤ w'.heap.size)
    (hown : ∀ Ds, Own Es Ds (mem w) → Ds.flatten.Nodup → (∀ b ∈ Ds.flatten, b < w.heap.size) → ∃ Ds', Own Es' Ds' (mem w') ∧ Ds'.flatten.Nodup ∧ (∀ b ∈ Ds'.flatten, (b ∈ Ds.flatten ∨ w.heap.size ≤ b) ∧ b < w'.heap.size) ∧
      ∀ i, i < w.heap.size → i ∉ Ds.flatten → w'.heap[i]? = w.heap[i]?) : Hp w0 X0 h0 Es' h w' := by
  obtain ⟨Ds, ho, hn, hb⟩ := H.own
  obtain ⟨Ds', ho', hn', hb', hk⟩ := hown Ds ho hn (fun b h => (hb b h).2.2)
  have hro : Le h (mem w') := fun i o e => by
    have hl := H.ro.lt e
    have hni : i ∉ Ds.flatten := fun hi => by have := (hb i hi).1; rw [this] at e; cases e
    show w'.heap[i]? = some o
    rw [hk i hl hni]; exact H.ro i o e
  refine ⟨hos.trans H.os, htape.trans H.tape, hout.trans H.output, Nat.le_trans H.size hsize, fun i hi hx => ?_, hro, H.le, H.new, Ds', ho', hn', fun b hb1 => ?_⟩
  · have hni : i ∉ Ds.flatten := fun h' => by rcases (hb i h').2.1 with h1 | h1; omega; exact hx h1
    rw [hk i (Nat.lt_of_lt_of_le hi H.size) hni]; exact H.old i hi hx
  · obtain ⟨h1, h2⟩ := hb' b hb1
    rcases h1 with h1 | h1
    · exact ⟨(hb b h1).1, (hb b h1).2.1, h2⟩
    · refine ⟨?_, .inl (Nat.le_trans H.size h1), h2⟩
      cases e : h b with
      | none => rfl
      | some o => have := H.ro.lt e; omega

theorem heap_push_lt {w : World} {o : Obj} {i : Nat} (h : i < w.heap.size) : (w.heap.push o)[i]? = w.heap[i]? := by
  rw [Array.getElem?_push, if_neg (by omega)]

/-- A new block. -/
theorem Hp.alloc (H : Hp w0 X0 h0 Es h w) (o : Obj) (A : Asn) (hA : ∀ m : Ro, m w.heap.size = some o → A.holds [w.heap.size] m) :
    Hp w0 X0 h0 (A :: Es) h { w with heap := w.heap.push o } := by
  refine H.turn rfl rfl rfl (by simp) fun Ds ho hn hb => ⟨[w.heap.size] :: Ds, ⟨hA _ (by simp [mem]), Own.loc (fun b hb' => ?_) ho⟩, ?_, ?_, fun i hi _ => heap_push_lt hi⟩
  · show w.heap[b]? = (w.heap.push o)[b]?
    rw [heap_push_lt (hb b hb')]
  · simp only [List.flatten_cons, List.singleton_append, List.nodup_cons]
    exact ⟨fun hm => absurd (hb _ hm) (by omega), hn⟩
  · intro b hb'
    simp only [List.flatten_cons, List.singleton_append, List.mem_cons] at hb'
    rcases hb' with rfl | hb'
    · exact ⟨.inr (Nat.le_refl _), by simp⟩
    · exact ⟨.inl hb', by have := hb b hb'; simp; omega⟩

/-- A new block that is only read from now on. -/
def Ro.with (h : Ro) (b : Nat) (o : Obj) : Ro := fun i => if i = b then some o else h i
end hp

/-- Where an assertion stands in the list, and what the list is when it is turned. -/
def Repl (Es : List Asn) (A A' : Asn) (Es' : List Asn) : Prop := ∃ p q, Es = p ++ A :: q ∧ Es' = p ++ A' :: q
theorem Repl.here {A A' : Asn} {r : List Asn} : Repl (A :: r) A A' (A' :: r) := ⟨[], r, rfl, rfl⟩
theorem Repl.there {A A' B : Asn} {r r' : List Asn} (h : Repl r A A' r') : Repl (B :: r) A A' (B :: r') := by
  obtain ⟨p, q, rfl, rfl⟩ := h; exact ⟨B :: p, q, rfl, rfl⟩
theorem Repl.rec_ {motive : List Asn → Asn → Asn → List Asn → Prop} (here : ∀ {A A' r}, motive (A :: r) A A' (A' :: r)) (there : ∀ {A A' B r r'}, motive r A A' r' → motive (B :: r) A A' (B :: r')) {Es A A' Es'} (h : Repl Es A A' Es') : motive Es A A' Es' := by
  obtain ⟨p, q, rfl, rfl⟩ := h
  induction p with
  | nil => exact here
  | cons B p ih => exact there ih

/-- An assertion taken out of the list. -/
def Take (Es : List Asn) (A : Asn) (Es' : List Asn) : Prop := ∃ p q, Es = p ++ A :: q ∧ Es' = p ++ q
theorem Take.here {A : Asn} {r : List Asn} : Take (A :: r) A r := ⟨[], r, rfl, rfl⟩
theorem Take.there {A B : Asn} {r r' : List Asn} (h : Take r A r') : Take (B :: r) A (B :: r') := by
  obtain ⟨p, q, rfl, rfl⟩ := h; exact ⟨B :: p, q, rfl, rfl⟩
theorem Take.rec_ {motive : List Asn → Asn → List Asn → Prop} (here : ∀ {A r}, motive (A :: r) A r) (there : ∀ {A B r r'}, motive r A r' → motive (B :: r) A (B :: r')) {Es A Es'} (h : Take Es A Es') : motive Es A Es' := by
  obtain ⟨p, q, rfl, rfl⟩ := h
  induction p with
  | nil => exact here
  | cons B p ih => exact there ih

theorem Repl.own {Es Es' : List Asn} {A A' : Asn} (hR : Repl Es A A' Es') : ∀ {Ds : List (List Nat)} {m : Ro}, Own Es Ds m → Ds.flatten.Nodup →
    ∃ D, A.holds D m ∧ D.Nodup ∧ (∀ b ∈ D, b ∈ Ds.flatten) ∧ ∀ (m' : Ro) (D' : List Nat), A'.holds D' m' → D'.Nodup → (∀ b ∈ D', b ∈ D ∨ b ∉ Ds.flatten) → (∀ b, b ∈ Ds.flatten → b ∉ D → m b = m' b) →
      ∃ Ds', Own Es' Ds' m' ∧ Ds'.flatten.Nodup ∧ ∀ b ∈ Ds'.flatten, b ∈ Ds.flatten ∨ b ∈ D' := by
  refine Repl.rec_ (motive := fun Es A A' Es' => ∀ {Ds : List (List Nat)} {m : Ro}, Own Es Ds m → Ds.flatten.Nodup →
    ∃ D, A.holds D m ∧ D.Nodup ∧ (∀ b ∈ D, b ∈ Ds.flatten) ∧ ∀ (m' : Ro) (D' : List Nat), A'.holds D' m' → D'.Nodup → (∀ b ∈ D', b ∈ D ∨ b ∉ Ds.flatten) → (∀ b, b ∈ Ds.flatten → b ∉ D → m b = m' b) →
      ∃ Ds', Own Es' Ds' m' ∧ Ds'.flatten.Nodup ∧ ∀ b ∈ Ds'.flatten, b ∈ Ds.flatten ∨ b ∈ D') ?_ ?_ hR
  · intro A A' r Ds m ho hn
    cases Ds with
    | nil => exact ho.elim
    | cons D Ds =>
      rw [List.flatten_cons, List.nodup_append] at hn
      refine ⟨D, ho.1, hn.1, fun b hb => by simp [hb], fun m' D' hA' hD' hsub hk => ⟨D' :: Ds, ⟨hA', Own.loc (fun b hb => hk b (by simp only [List.flatten_cons, List.mem_append]; exact .inr hb) (fun hD => hn.2.2 b hD b hb rfl)) ho.2⟩, ?_, ?_⟩⟩
      · rw [List.flatten_cons, List.nodup_append]
        refine ⟨hD', hn.2.1, fun a ha b hb e => ?_⟩
        subst e
        rcases hsub a ha with h1 | h1
        · exact hn.2.2 a h1 a hb rfl
        · exact h1 (by simp only [List.flatten_cons, List.mem_append]; exact .inr hb)
      · intro b hb
        simp only [List.flatten_cons, List.mem_append] at hb ⊢
        rcases hb with h1 | h1
        · exact .inr h1
        · exact .inl (.inr h1)
  · intro A A' B r r' ih Ds m ho hn
    cases Ds with
    | nil => exact ho.elim
    | cons D0 Ds =>
      rw [List.flatten_cons, List.nodup_append] at hn
      obtain ⟨D, hA, hDn, hsubD, hgo⟩ := ih ho.2 hn.2.1
      refine ⟨D, hA, hDn, fun b hb => by simp only [List.flatten_cons, List.mem_append]; exact .inr (hsubD b hb), fun m' D' hA' hD' hsub hk => ?_⟩
      obtain ⟨Ds', ho', hn', hin⟩ := hgo m' D' hA' hD' (fun b hb => (hsub b hb).imp id fun h1 h2 => h1 (by simp only [List.flatten_cons, List.mem_append]; exact .inr h2)) (fun b hb hbD => hk b (by simp only [List.flatten_cons, List.mem_append]; exact .inr hb) hbD)
      refine ⟨D0 :: Ds', ⟨B.loc D0 m m' (fun b hb => hk b (by simp [hb]) (fun hbD => hn.2.2 b hb b (hsubD b hbD) rfl)) ho.1, ho'⟩, ?_, ?_⟩
      · rw [List.flatten_cons, List.nodup_append]
        refine ⟨hn.1, hn', fun a ha b hb e => ?_⟩
        subst e
        rcases hin a hb with h1 | h1
        · exact hn.2.2 a ha a h1 rfl
        · rcases hsub a h1 with h2 | h2
          · exact hn.2.2 a ha a (hsubD a h2) rfl
          · exact h2 (by simp [ha])
      · intro b hb
        simp only [List.flatten_cons, List.mem_append] at hb ⊢
        rcases hb with h1 | h1
        · exact .inl (.inl h1)
        · rcases hin b h1 with h2 | h2
          · exact .inl (.inr h2)
          · exact .inr h2

theorem Take.own {Es Es' : List Asn} {A : Asn} (hT : Take Es A Es') : ∀ {Ds : List (List Nat)} {m : Ro}, Own Es Ds m → Ds.flatten.Nodup →
    ∃ D Ds', A.holds D m ∧ Own Es' Ds' m ∧ (D ++ Ds'.flatten).Nodup ∧ ∀ b, b ∈ Ds.flatten ↔ b ∈ D ∨ b ∈ Ds'.flatten := by
  refine Take.rec_ (motive := fun Es A Es' => ∀ {Ds : List (List Nat)} {m : Ro}, Own Es Ds m → Ds.flatten.Nodup →
    ∃ D Ds', A.holds D m ∧ Own Es' Ds' m ∧ (D ++ Ds'.flatten).Nodup ∧ ∀ b, b ∈ Ds.flatten ↔ b ∈ D ∨ b ∈ Ds'.flatten) ?_ ?_ hT
  · intro A r Ds m ho hn
    cases Ds with
    | nil => exact ho.elim
    | cons D Ds => exact ⟨D, Ds, ho.1, ho.2, by simpa using hn, fun b => by simp⟩
  · intro A B r r' ih Ds m ho hn
    cases Ds with
    | nil => exact ho.elim
    | cons D0 Ds =>
      rw [List.flatten_cons, List.nodup_append] at hn
      obtain ⟨D, Ds', hA, ho', hn', hin⟩ := ih ho.2 hn.2.1
      rw [List.nodup_append] at hn'
      refine ⟨D, D0 :: Ds', hA, ⟨ho.1, ho'⟩, ?_, fun b => ?_⟩
      · rw [List.flatten_cons, List.nodup_append, List.nodup_append]
        refine ⟨hn'.1, ⟨hn.1, hn'.2.1, fun a ha b hb e => ?_⟩, fun a ha b hb e => ?_⟩
        · subst e; exact hn.2.2 a ha a ((hin a).2 (.inr hb)) rfl
        · subst e
          rcases List.mem_append.1 hb with h1 | h1
          · exact hn.2.2 a h1 a ((hin a).2 (.inl ha)) rfl
          · exact hn'.2.2 a ha a h1 rfl
      · simp only [List.flatten_cons, List.mem_append, hin b]
        constructor
        · rintro (h | h | h)
          · exact .inr (.inl h)
          · exact .inl h
          · exact .inr (.inr h)
        · rintro (h | h | h)
          · exact .inr (.inl h)
          · exact .inl h
          · exact .inr (.inr h)

theorem Own.get {Es : List Asn} {A : Asn} (hA : A ∈ Es) : ∀ {Ds : List (List Nat)} {m : Ro}, Own Es Ds m → ∃ D, A.holds D m ∧ ∀ b ∈ D, b ∈ Ds.flatten := by
  induction Es with
  | nil => cases hA
  | cons B Es ih =>
    intro Ds m ho
    cases Ds with
    | nil => exact ho.elim
    | cons D Ds =>
      rcases List.mem_cons.1 hA with rfl | h
      · exact ⟨D, ho.1, fun b hb => by simp [hb]⟩
      · obtain ⟨D', h1, h2⟩ := ih h ho.2
        exact ⟨D', h1, fun b hb => by simp only [List.flatten_cons, List.mem_append]; exact .inr (h2 b hb)⟩

section hp2
variable {w0 : World} {X0 : List Nat} {h0 h : Ro} {Es Es' : List Asn} {w : World}

theorem Hp.get (H : Hp w0 X0 h0 Es h w) {A : Asn} (hA : A ∈ Es) : ∃ D, A.holds D (mem w) := by
  obtain ⟨Ds, ho, _⟩ := H.own
  obtain ⟨D, h1, _⟩ := ho.get hA
  exact ⟨D, h1⟩

theorem Hp.blk (H : Hp w0 X0 h0 Es h w) {b : Nat} {T : TypeId} {cs : List Value} (hA : Blk b T cs ∈ Es) : w.heap[b]? = some (.cells cs.toArray T (0, 0)) := by
  obtain ⟨D, _, h1⟩ := H.get hA
  exact h1

/-- One assertion is turned, by a step that changes its own blocks alone (and may add new ones). -/
theorem Hp.repl {w' : World} {A A' : Asn} (H : Hp w0 X0 h0 Es h w) (hR : Repl Es A A' Es') (hos : w'.os = w.os) (htape : w'.tape = w.tape) (hout : w'.output = w.output) (hsize : w.heap.size ≤ w'.heap.size)
    (hstep : ∀ D, A.holds D (mem w) → D.Nodup → (∀ b ∈ D, b < w.heap.size) → ∃ D', A'.holds D' (mem w') ∧ D'.Nodup ∧ (∀ b ∈ D', (b ∈ D ∨ w.heap.size ≤ b) ∧ b < w'.heap.size) ∧ ∀ i, i < w.heap.size → i ∉ D → w'.heap[i]? = w.heap[i]?) :
    Hp w0 X0 h0 Es' h w' := by
  refine H.turn hos htape hout hsize fun Ds ho hn hb => ?_
  obtain ⟨D, hA, hDn, hsub, hgo⟩ := hR.own ho hn
  obtain ⟨D', hA', hD', hin, hk⟩ := hstep D hA hDn (fun b h1 => hb b (hsub b h1))
  obtain ⟨Ds', ho', hn', hin'⟩ := hgo (mem w') D' hA' hD' (fun b hb1 => (hin b hb1).1.imp id fun h1 h2 => absurd (hb b h2) (by omega)) (fun b hb1 hbD => (hk b (hb b hb1) hbD).symm)
  refine ⟨Ds', ho', hn', fun b hb1 => ?_, fun i hi hni => hk i hi (fun hD => hni (hsub i hD))⟩
  rcases hin' b hb1 with h1 | h1
  · exact ⟨.inl h1, Nat.lt_of_lt_of_le (hb b h1) hsize⟩
  · obtain ⟨h2, h3⟩ := hin b h1
    rcases h2 with h2 | h2
    · exact ⟨.inl (hsub b h2), h3⟩
    · exact ⟨.inr h2, h3⟩

/-- What is owned under another name. -/
theorem Hp.asn {A A' : Asn} (H : Hp w0 X0 h0 Es h w) (hR : Repl Es A A' Es') (hi : ∀ D m, A.holds D m → A'.holds D m) : Hp w0 X0 h0 Es' h w :=
  H.repl hR rfl rfl rfl (Nat.le_refl _) fun D hA hn hb => ⟨D, hi D _ hA, hn, fun b h1 => ⟨.inl h1, hb b h1⟩, fun _ _ _ => rfl⟩

/-- What is owned is let go: it is only read from now on. -/
theorem Hp.release {A : Asn} (H : Hp w0 X0 h0 Es h w) (hT : Take Es A Es') : ∃ D h', Le h h' ∧ A.holds D h' ∧ Hp w0 X0 h0 Es' h' w := by
  obtain ⟨Ds, ho, hn, hb⟩ := H.own
  obtain ⟨D, Ds', hA, ho', hn', hin⟩ := hT.own ho hn
  rw [List.nodup_append] at hn'
  have hnone : ∀ b, b ∈ D → h b = none := fun b h1 => (hb b ((hin b).2 (.inl h1))).1
  refine ⟨D, fun i => if i ∈ D then mem w i else h i, fun i o e => ?_, A.loc D (mem w) _ (fun b h1 => by simp [h1]) hA, H.os, H.tape, H.output, H.size, H.old, fun i o e => ?_, H.le.trans fun i o e => ?_, fun i o e => ?_, Ds', ho', hn'.2.1, fun b h1 => ?_⟩
  · by_cases hi : i ∈ D
    · rw [hnone i hi] at e; cases e
    · simpa [hi] using e
  · by_cases hi : i ∈ D
    · simpa [hi] using e
    · exact H.ro i o (by simpa [hi] using e)
  · by_cases hi : i ∈ D
    · rw [hnone i hi] at e; cases e
    · simpa [hi] using e
  · by_cases hi : i ∈ D
    · exact .inr (hb i ((hin i).2 (.inl hi))).2.1
    · exact H.new i o (by simpa [hi] using e)
  · have hnD : b ∉ D := fun h2 => hn'.2.2 b h2 b h1 rfl
    obtain ⟨h2, h3, h4⟩ := hb b ((hin b).2 (.inr h1))
    exact ⟨by simp [hnD, h2], h3, h4⟩

/-- What is owned is forgotten. -/
theorem Hp.drop {A : Asn} (H : Hp w0 X0 h0 Es h w) (hT : Take Es A Es') : Hp w0 X0 h0 Es' h w := by
  obtain ⟨Ds, ho, hn, hb⟩ := H.own
  obtain ⟨D, Ds', hA, ho', hn', hin⟩ := hT.own ho hn
  rw [List.nodup_append] at hn'
  exact ⟨H.os, H.tape, H.output, H.size, H.old, H.ro, H.le, H.new, Ds', ho', hn'.2.1, fun b h1 => hb b ((hin b).2 (.inr h1))⟩
end hp2

/-! ### Contracts -/
/-- What a call of f does: it owns Es0, it may read h0; it comes back, and of what it hands back, of what is owned then and of what may be read then, Post holds. Nothing else that was there has turned. -/
def Fn (P : Program) (f : FuncId) (args : Array Value) (Es0 : List Asn) (h0 : Ro) (Post : Value → List Asn → Ro → Prop) : Prop :=
  ∀ (w : World) (X0 : List Nat), Le h0 (mem w) →
    (∃ Ds : List (List Nat), Own Es0 Ds (mem w) ∧ Ds.flatten.Nodup ∧ ∀ b ∈ Ds.flatten, h0 b = none ∧ b ∈ X0 ∧ b < w.heap.size) →
    Calls P f args w fun e w' => ∃ v, e = .returned v ∧ ∃ Es h, Post v Es h ∧ Hp w X0 h0 Es h w'

theorem Fn.mono {P : Program} {f : FuncId} {args : Array Value} {Es0 : List Asn} {h0 : Ro} {Post Post' : Value → List Asn → Ro → Prop} (h : Fn P f args Es0 h0 Post)
    (hp : ∀ v Es h, Le h0 h → Post v Es h → Post' v Es h) : Fn P f args Es0 h0 Post' := fun w X0 hl ho =>
  (h w X0 hl ho).mono fun _ _ ⟨v, he, Es, h, hP, H⟩ => ⟨v, he, Es, h, hp v Es h H.le hP, H⟩

theorem Own.append : ∀ {Es Fs : List Asn} {Ds Gs : List (List Nat)} {m : Ro}, Own Es Ds m → Own Fs Gs m → Own (Es ++ Fs) (Ds ++ Gs) m
  | [], _, [], _, _, _, h => h
  | _ :: _, _, _ :: _, _, _, ⟨h1, h2⟩, h => ⟨h1, Own.append h2 h⟩
  | [], _, _ :: _, _, _, h, _ => h.elim
  | _ :: _, _, [], _, _, h, _ => h.elim

theorem Own.split : ∀ {Es Fs : List Asn} {Ds : List (List Nat)} {m : Ro}, Own (Es ++ Fs) Ds m → ∃ D1 D2, Ds = D1 ++ D2 ∧ Own Es D1 m ∧ Own Fs D2 m
  | [], _, Ds, _, h => ⟨[], Ds, rfl, trivial, h⟩
  | A :: Es, Fs, D :: Ds, m, ⟨h1, h2⟩ => by
    obtain ⟨D1, D2, rfl, h3, h4⟩ := Own.split (Es := Es) (Fs := Fs) h2
    exact ⟨D :: D1, D2, rfl, ⟨h1, h3⟩, h4⟩
  | _ :: _, _, [], _, h => h.elim

/-- The caller's memory behind a call. -/
theorem Hp.call {w0 w w' : World} {X0 : List Nat} {h0 h h' : Ro} {Es0 Es1 Fs : List Asn} {D1 D2 : List (List Nat)} (H : Hp w0 X0 h0 (Es0 ++ Fs) h w)
    (ho1 : Own Es0 D1 (mem w)) (ho2 : Own Fs D2 (mem w)) (hn : (D1 ++ D2).flatten.Nodup) (hb : ∀ b ∈ (D1 ++ D2).flatten, h b = none ∧ (w0.heap.size ≤ b ∨ b ∈ X0) ∧ b < w.heap.size)
    (H' : Hp w D1.flatten h Es1 h' w') : Hp w0 X0 h0 (Es1 ++ Fs) h' w' := by
  obtain ⟨Ds', ho', hn', hb'⟩ := H'.own
  have hb1 : ∀ b ∈ D1.flatten, h b = none ∧ (w0.heap.size ≤ b ∨ b ∈ X0) ∧ b < w.heap.size := fun b h1 => hb b (by rw [List.flatten_append, List.mem_append]; exact .inl h1)
  have hb2 : ∀ b ∈ D2.flatten, h b = none ∧ (w0.heap.size ≤ b ∨ b ∈ X0) ∧ b < w.heap.size := fun b h1 => hb b (by rw [List.flatten_append, List.mem_append]; exact .inr h1)
  rw [List.flatten_append, List.nodup_append] at hn
  refine ⟨H'.os.trans H.os, H'.tape.trans H.tape, H'.output.trans H.output, Nat.le_trans H.size H'.size, fun i hi hx => ?_, H'.ro, H.le.trans H'.le, fun i o e => ?_, Ds' ++ D2, Own.append ho' (Own.loc (fun b h1 => ?_) ho2), ?_, fun b h1 => ?_⟩
  · have hni : i ∉ D1.flatten := fun h1 => by rcases (hb1 i h1).2.1 with h2 | h2; omega; exact hx h2
    rw [H'.old i (Nat.lt_of_lt_of_le hi H.size) hni]; exact H.old i hi hx
  · rcases H'.new i o e with h1 | h1 | h1
    · exact H.new i o h1
    · exact .inr (.inl (Nat.le_trans H.size h1))
    · exact .inr (hb1 i h1).2.1
  · exact (H'.old b (hb2 b h1).2.2 (fun h2 => hn.2.2 b h2 b h1 rfl)).symm
  · rw [List.flatten_append, List.nodup_append]
    refine ⟨hn', hn.2.1, fun a ha b hb3 e => ?_⟩
    subst e
    rcases (hb' a ha).2.1 with h1 | h1
    · have := (hb2 a hb3).2.2; omega
    · exact hn.2.2 a h1 a hb3 rfl
  · rw [List.flatten_append, List.mem_append] at h1
    rcases h1 with h1 | h1
    · obtain ⟨h2, h3, h4⟩ := hb' b h1
      refine ⟨h2, ?_, h4⟩
      rcases h3 with h3 | h3
      · exact .inl (Nat.le_trans H.size h3)
      · exact (hb1 b h3).2.1
    · obtain ⟨h2, h3, h4⟩ := hb2 b h1
      refine ⟨?_, h3, Nat.lt_of_lt_of_le h4 H'.size⟩
      cases e : h' b with
      | none => rfl
      | some o =>
        rcases H'.new b o e with h5 | h5 | h5
        · rw [h2] at h5; cases h5
        · omega
        · exact absurd rfl (hn.2.2 b h5 b h1)
end Go.Hw

/-
  Hw, part G: a region that draws its order: operations whose value is known beforehand are promised; the others are met one by one, whatever order comes.
-/
import Derived.Test.YtbgjcjhodlmgjaaHwF
set_option linter.unusedVariables false
namespace Go.Hw
open Go

/-! ### What every schedule keeps -/
/-- No operation of the list stands ahead of one that it must wait for. -/
def Sched (ops : Array Oper) (is : List Nat) : Prop :=
  is.Nodup ∧ (∀ i ∈ is, i < ops.size) ∧ ∀ p i q, is = p ++ i :: q → ∀ o, ops[i]? = some o → ∀ e ∈ o.after.toList, Region.binds .any e = true → e.on ∉ i :: q

theorem Sched.tail {ops : Array Oper} {i : Nat} {is : List Nat} (h : Sched ops (i :: is)) : Sched ops is :=
  ⟨(List.nodup_cons.1 h.1).2, fun j hj => h.2.1 j (.tail _ hj), fun p j q e o ho => h.2.2 (i :: p) j q (by rw [e]; rfl) o ho⟩

theorem binds_any {m : Region.Mode} {e : Edge} (h : Region.binds .any e = true) : Region.binds m e = true := by
  unfold Region.binds at *
  cases hg : e.ground <;> simp_all

/-- A complete order that respects the edges of a mode. -/
def Order (m : Region.Mode) (ops : Array Oper) (L : List Nat) : Prop :=
  (∀ i, i < ops.size → i ∈ L) ∧ (∀ i ∈ L, i < ops.size) ∧ ∀ p i q, L = p ++ i :: q → ∀ o, ops[i]? = some o → ∀ e ∈ o.after.toList, Region.binds m e = true → e.on ∈ p

theorem first_unlisted (S : Nat → Bool) : ∀ (L : List Nat), (∃ i ∈ L, S i = false) → ∃ p i q, L = p ++ i :: q ∧ S i = false ∧ ∀ j ∈ p, S j = true
  | [], ⟨_, h, _⟩ => by cases h
  | x :: L, h => by
    cases hx : S x with
    | false => exact ⟨[], x, L, rfl, hx, fun _ h => by cases h⟩
    | true =>
      obtain ⟨i, hi, hs⟩ := h
      have hi' : i ∈ L := by
        rcases List.mem_cons.1 hi with rfl | h
        · rw [hx] at hs; cases hs
        · exact h
      obtain ⟨p, j, q, e, h1, h2⟩ := first_unlisted S L ⟨i, hi', hs⟩
      exact ⟨x :: p, j, q, by rw [e]; rfl, h1, fun k hk => by
        rcases List.mem_cons.1 hk with rfl | h
        · exact hx
        · exact h2 k h⟩

theorem len_le_of_sub : ∀ {l1 l2 : List Nat}, l1.Nodup → (∀ x ∈ l1, x ∈ l2) → l1.length ≤ l2.length
  | [], _, _, _ => by simp
  | x :: t, l2, hn, hs => by
    have hx := hs x (.head _)
    have hn' := List.nodup_cons.1 hn
    have := len_le_of_sub (l1 := t) (l2 := l2.erase x) hn'.2 (fun y hy => (List.mem_erase_of_ne (fun (e : y = x) => hn'.1 (by rw [← e]; exact hy))).2 (hs y (.tail _ hy)))
    rw [List.length_erase_of_mem hx] at this
    have h0 : 0 < l2.length := List.length_pos_of_mem hx
    simp; omega

theorem getD_of_lt (a : Array Bool) {i : Nat} (h : i < a.size) (d : Bool) : a.getD i d = a[i] := by simp [Array.getD, h]

theorem lin_go {m : Region.Mode} {ops : Array Oper} {L : List Nat} (hL : Order m ops L) : ∀ (fuel t : Nat) (listed : Array Bool) (acc : List Nat),
    fuel + acc.length = ops.size → listed.size = ops.size → (∀ i, i < ops.size → (listed.getD i true = true ↔ i ∈ acc)) → (∀ i ∈ acc, i < ops.size) → acc.Nodup →
    (∀ p i q, acc.reverse = p ++ i :: q → ∀ o, ops[i]? = some o → ∀ e ∈ o.after.toList, Region.binds .any e = true → e.on ∈ p) →
    (Region.linearise.go m ops fuel t listed acc).Nodup ∧ (∀ i, i < ops.size → i ∈ Region.linearise.go m ops fuel t listed acc) ∧ (∀ i ∈ Region.linearise.go m ops fuel t listed acc, i < ops.size) ∧
    ∀ p i q, Region.linearise.go m ops fuel t listed acc = p ++ i :: q → ∀ o, ops[i]? = some o → ∀ e ∈ o.after.toList, Region.binds .any e = true → e.on ∈ p
  | 0, t, listed, acc, hf, hsz, hl, hlt, hn, hord => by
    unfold Region.linearise.go
    refine ⟨by unfold List.Nodup; rw [List.pairwise_reverse]; exact hn.imp Ne.symm, fun i hi => ?_, fun i hi => hlt i (by simpa using hi), hord⟩
    -- all are listed
    have hlen : acc.length = ops.size := by omega
    rcases Classical.em (i ∈ acc) with h | h
    · simpa using h
    · have := len_le_of_sub (l1 := i :: acc) (l2 := List.range ops.size) (List.nodup_cons.2 ⟨h, hn⟩) (fun j hj => by
        rcases List.mem_cons.1 hj with rfl | hj
        · exact List.mem_range.2 hi
        · exact List.mem_range.2 (hlt j hj))
      simp at this; omega
  | fuel + 1, t, listed, acc, hf, hsz, hl, hlt, hn, hord => by
    unfold Region.linearise.go
    simp only
    generalize hrs : (List.range ops.size).filter (fun i => !listed.getD i true && ((ops[i]?).map (·.after.all fun e => !Region.binds m e || listed.getD e.on false)).getD false) = rs
    -- a candidate there is
    have hex : rs ≠ [] := by
      have hsome : ∃ i ∈ L, listed.getD i true = false := by
        rcases Classical.em (∃ i ∈ L, listed.getD i true = false) with h | h
        · exact h
        · exfalso
          have hall : ∀ i, i < ops.size → i ∈ acc := fun i hi => by
            refine (hl i hi).1 ?_
            cases hq : listed.getD i true with
            | true => rfl
            | false => exact absurd ⟨i, hL.1 i hi, hq⟩ h
          have : (List.range ops.size).length ≤ acc.length := len_le_of_sub List.nodup_range fun i hi => hall i (List.mem_range.1 hi)
          simp at this; omega
      obtain ⟨p, i, q, e, hi, hp⟩ := first_unlisted (fun i => listed.getD i true) L hsome
      have hilt : i < ops.size := by
        rcases Nat.lt_or_ge i ops.size with h | h
        · exact h
        · have : listed.getD i true = true := by simp [Array.getD, hsz, Nat.not_lt.2 h]
          rw [this] at hi; cases hi
      have hmem : i ∈ rs := by
        rw [← hrs, List.mem_filter]
        refine ⟨List.mem_range.2 hilt, ?_⟩
        have ho : ops[i]? = some ops[i] := Array.getElem?_eq_getElem hilt
        rw [hi, ho]
        simp only [Bool.not_false, Bool.true_and, Option.map_some, Option.getD_some, Array.all_eq_true_iff_forall_mem]
        intro e' he'
        cases hb : Region.binds m e' with
        | false => rfl
        | true =>
          have hin := hL.2.2 p i q e _ ho e' (by simpa using he') hb
          have h1 := hp _ hin
          have hon : e'.on < ops.size := by
            rcases Nat.lt_or_ge e'.on ops.size with h | h
            · exact h
            · exact hL.2.1 _ (by rw [e]; exact List.mem_append.2 (.inl hin))
          have : listed.getD e'.on false = true := by
            rw [getD_of_lt listed (by omega)]; rw [getD_of_lt listed (by omega)] at h1; exact h1
          simp [this]
      exact List.ne_nil_of_mem hmem
    have hlen : 0 < rs.length := List.length_pos_iff.2 hex
    have hget : rs[t % rs.length]? = some (rs[t % rs.length]'(Nat.mod_lt _ hlen)) := List.getElem?_eq_getElem _
    rw [hget]
    simp only
    generalize hi : rs[t % rs.length]'(Nat.mod_lt _ hlen) = i
    have himem : i ∈ rs := hi ▸ List.getElem_mem _
    rw [← hrs, List.mem_filter] at himem
    obtain ⟨hir, hic⟩ := himem
    have hilt := List.mem_range.1 hir
    have ho : ops[i]? = some ops[i] := Array.getElem?_eq_getElem hilt
    rw [ho] at hic
    simp only [Option.map_some, Option.getD_some, Bool.and_eq_true, Bool.not_eq_true', Array.all_eq_true_iff_forall_mem, Bool.or_eq_true] at hic
    have hnot : i ∉ acc := fun h => by have := (hl i hilt).2 h; rw [hic.1] at this; cases this
    refine lin_go hL fuel (t / rs.length) (listed.setIfInBounds i true) (i :: acc) (by simp; omega) (by simpa using hsz) (fun j hj => ?_) (fun j hj => ?_) (List.nodup_cons.2 ⟨hnot, hn⟩) ?_
    · rw [getD_of_lt _ (by simp; omega), List.mem_cons]
      by_cases hji : j = i
      · subst hji; simp
      · have := hl j hj
        rw [getD_of_lt _ (by omega)] at this
        rw [Array.getElem_setIfInBounds_ne (by omega) (Ne.symm hji), this]
        simp [hji]
    · rcases List.mem_cons.1 hj with rfl | h
      · exact hilt
      · exact hlt j h
    · intro p j q e o ho' e' he' hb
      rw [List.reverse_cons] at e
      rcases Nat.lt_or_ge p.length acc.reverse.length with hlt' | hge
      · -- within what was there
        have h1 : acc.reverse = p ++ (acc.reverse.drop p.length) := by
          have := congrArg (List.take p.length) e
          rw [List.take_append_of_le_length (by omega), List.take_left] at this
          conv => lhs; rw [← List.take_append_drop p.length acc.reverse, this]
        have h2 : acc.reverse.drop p.length ++ [i] = j :: q := by
          have := congrArg (List.drop p.length) e
          rwa [List.drop_append_of_le_length (by omega), List.drop_left] at this
        cases hd : acc.reverse.drop p.length with
        | nil =>
          rw [hd] at h1
          have := congrArg List.length h1
          simp at this hlt'; omega
        | cons x r =>
          rw [hd] at h2 h1
          simp only [List.cons_append, List.cons.injEq] at h2
          obtain ⟨rfl, h2⟩ := h2
          exact hord p x r h1 o ho' e' he' hb
      · have hlen := congrArg List.length e
        simp only [List.length_append, List.length_cons, List.length_nil] at hlen
        have hq : q = [] := List.eq_nil_of_length_eq_zero (by omega)
        subst hq
        have := List.append_inj' e rfl
        obtain ⟨h1, h2⟩ := this
        simp only [List.cons.injEq, and_true] at h2
        subst h2
        rw [ho] at ho'; injection ho' with ho'; subst ho'
        rcases hic.2 e' (by simpa using he') with h3 | h3
        · rw [binds_any hb] at h3; cases h3
        · have hon : e'.on < ops.size := by
            rcases Nat.lt_or_ge e'.on ops.size with h | h
            · exact h
            · simp [Array.getD, hsz, Nat.not_lt.2 h] at h3
          rw [getD_of_lt _ (by omega)] at h3
          have := (hl e'.on hon).1 (by rw [getD_of_lt _ (by omega)]; exact h3)
          rw [← h1]; simpa using this

theorem linearise_ok {m : Region.Mode} {ops : Array Oper} {L : List Nat} (hL : Order m ops L) (t : Nat) : Sched ops (Region.linearise m ops t) ∧ ∀ i, i < ops.size → i ∈ Region.linearise m ops t := by
  have := lin_go hL ops.size t (Array.replicate ops.size false) [] (by simp) (by simp) (fun i hi => by rw [getD_of_lt _ (by simpa using hi)]; simp) (by simp) List.nodup_nil (fun p i q e => by simp at e)
  obtain ⟨h1, h2, h3, h4⟩ := this
  refine ⟨⟨h1, h3, fun p i q e o ho e' he' hb hmem => ?_⟩, h2⟩
  have hp := h4 p i q e o ho e' he' hb
  have hn : (p ++ i :: q).Nodup := e ▸ h1
  rw [List.nodup_append] at hn
  exact hn.2.2 _ hp _ hmem rfl

/-! ### Orders, by reckoning -/
def predsOk (m : Region.Mode) (seen : List Nat) (o : Oper) : Bool := o.after.toList.all fun e => !Region.binds m e || seen.contains e.on
def orderB (m : Region.Mode) (ops : Array Oper) : List Nat → List Nat → Bool
  | _, [] => true
  | seen, i :: r => (match ops[i]? with | some o => predsOk m seen o | none => false) && orderB m ops (i :: seen) r

theorem orderB_ok {m : Region.Mode} {ops : Array Oper} : ∀ {L seen : List Nat}, orderB m ops seen L = true → (∀ i ∈ L, i < ops.size) ∧ ∀ p i q, L = p ++ i :: q → ∀ o, ops[i]? = some o → ∀ e ∈ o.after.toList, Region.binds m e = true → e.on ∈ seen ∨ e.on ∈ p
  | [], seen, _ => ⟨by simp, fun p i q e => by simp at e⟩
  | x :: L, seen, h => by
    simp only [orderB, Bool.and_eq_true] at h
    obtain ⟨h1, h2⟩ := h
    obtain ⟨h3, h4⟩ := orderB_ok h2
    cases hx : ops[x]? with
    | none => rw [hx] at h1; cases h1
    | some ox =>
      rw [hx] at h1
      refine ⟨fun i hi => ?_, fun p i q e o ho e' he' hb => ?_⟩
      · rcases List.mem_cons.1 hi with rfl | h
        · exact (Array.getElem?_eq_some_iff.1 hx).1
        · exact h3 i h
      · cases p with
        | nil =>
          simp only [List.nil_append, List.cons.injEq] at e
          obtain ⟨rfl, _⟩ := e
          rw [hx] at ho; injection ho with ho; subst ho
          simp only [predsOk, List.all_eq_true, Bool.or_eq_true, Bool.not_eq_true', List.contains_iff_mem] at h1
          rcases h1 e' he' with h5 | h5
          · rw [hb] at h5; cases h5
          · exact .inl h5
        | cons y p =>
          simp only [List.cons_append, List.cons.injEq] at e
          obtain ⟨rfl, e⟩ := e
          rcases h4 p i q e o ho e' he' hb with h5 | h5
          · rcases List.mem_cons.1 h5 with h6 | h6
            · exact .inr (by rw [h6]; exact .head _)
            · exact .inl h6
          · exact .inr (.tail _ h5)

/-- Both modes of a region that may be carried out in two fashions have an order; and the plain one. -/
def drawsB (ops : Array Oper) (Lg : List Nat) : Bool :=
  orderB .any ops [] (List.range ops.size) && orderB .text ops [] (List.range ops.size) && orderB .gc ops [] Lg && (List.range ops.size).all fun i => Lg.contains i

theorem schedule_ok {ops : Array Oper} {Lg : List Nat} (h : drawsB ops Lg = true) (mixed : Bool) (t : Nat) : Sched ops (Region.schedule mixed ops t) ∧ ∀ i, i < ops.size → i ∈ Region.schedule mixed ops t := by
  simp only [drawsB, Bool.and_eq_true, List.all_eq_true, List.mem_range, List.contains_iff_mem] at h
  obtain ⟨⟨⟨h1, h2⟩, h3⟩, h4⟩ := h
  have mk : ∀ {m L}, orderB m ops [] L = true → (∀ i, i < ops.size → i ∈ L) → Order m ops L := fun {m L} hb hc =>
    ⟨hc, (orderB_ok hb).1, fun p i q e o ho e' he' hbd => by rcases (orderB_ok hb).2 p i q e o ho e' he' hbd with h5 | h5; simp at h5; exact h5⟩
  unfold Region.schedule
  split
  · exact linearise_ok (mk h1 fun i hi => List.mem_range.2 hi) t
  · split
    · exact linearise_ok (mk h2 fun i hi => List.mem_range.2 hi) _
    · exact linearise_ok (mk h3 h4) _
end Go.Hw

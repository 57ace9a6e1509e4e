import Derived.Test.YtbgjcjhodlmgjacDoorNA
import Derived.Test.YtbgjcjhodlmgjacDoorWB
set_option linter.unusedVariables false
set_option linter.unusedSimpArgs false
set_option maxRecDepth 100000
set_option maxHeartbeats 1600000
namespace Go.Hw
open Go

/-! ### The players of a registry, each once -/
def firsts (l : List Ent) : List Int := l.foldl (fun acc x => if x.player ∈ acc then acc else acc ++ [x.player]) []
theorem firsts_snoc (l : List Ent) (x : Ent) : firsts (l ++ [x]) = if x.player ∈ firsts l then firsts l else firsts l ++ [x.player] := by unfold firsts; rw [List.foldl_append]; rfl
theorem firsts_mem (l : List Ent) (p : Int) : p ∈ firsts l ↔ ∃ x ∈ l, x.player = p := by
  induction l using rev_ind with
  | h0 => simp [firsts]
  | h1 l x ih =>
    rw [firsts_snoc]
    split
    · rename_i h
      rw [ih]
      constructor
      · rintro ⟨y, hy, e⟩; exact ⟨y, by simp [hy], e⟩
      · rintro ⟨y, hy, e⟩
        rw [List.mem_append, List.mem_singleton] at hy
        rcases hy with hy | rfl
        · exact ⟨y, hy, e⟩
        · subst e; exact ih.1 h
    · rw [List.mem_append, List.mem_singleton, ih]
      constructor
      · rintro (⟨y, hy, e⟩ | rfl)
        · exact ⟨y, by simp [hy], e⟩
        · exact ⟨x, by simp, rfl⟩
      · rintro ⟨y, hy, e⟩
        rw [List.mem_append, List.mem_singleton] at hy
        rcases hy with hy | rfl
        · exact .inl ⟨y, hy, e⟩
        · exact .inr e.symm
theorem firsts_len (l : List Ent) : (firsts l).length ≤ l.length := by
  induction l using rev_ind with
  | h0 => simp [firsts]
  | h1 l x ih => rw [firsts_snoc]; split <;> simp <;> omega
/-- The players that have an owner: owner and club. -/
noncomputable def playersL (r : Reg) (l : List Int) : List (Int × Int) := (l.filter fun p => (regClub r p).2.2).map fun p => ((regClub r p).1, (regClub r p).2.1)
theorem playersL_app (r : Reg) (a b : List Int) : playersL r (a ++ b) = playersL r a ++ playersL r b := by simp [playersL]
theorem playersL_len (r : Reg) (l : List Int) : (playersL r l).length ≤ l.length := by unfold playersL; rw [List.length_map]; exact List.length_filter_le _ _
def encOP (x : Int × Int) : List Value := [.int .i64 x.1, .int .i64 x.2]
theorem squadLlen (r : Reg) (club : Int) : (squadL r club).length ≤ r.ents.length := by
  have key : ∀ l : List Ent, (l.foldl (sqStep r club) []).length ≤ l.length := fun l => by
    induction l using rev_ind with
    | h0 => simp
    | h1 l x ih =>
      rw [List.foldl_append, List.foldl_cons, List.foldl_nil, sqStep, List.length_append]
      split
      · rw [insL_len]; simp; omega
      · simp; omega
  exact key r.ents
def metL (l : List Int) : List (Int × Bool) := l.map fun p => (p, true)
theorem metL_look (l : List Int) (p : Int) : lookA p (metL l) = if p ∈ l then some true else none := by
  induction l with
  | nil => simp [metL, lookA]
  | cons a r ih =>
    show lookA p ((a, true) :: metL r) = _
    unfold lookA
    by_cases h : a = p
    · subst h; simp
    · have h' : ¬ p = a := fun e => h e.symm
      simp [h, h', ih]
theorem metL_ins (l : List Int) (p : Int) (h : p ∉ l) : insA p true (metL l) = metL (l ++ [p]) := by
  induction l with
  | nil => simp [metL, insA]
  | cons a r ih =>
    have h1 : ¬ a = p := fun e => h (by simp [e])
    show insA p true ((a, true) :: metL r) = _
    unfold insA
    rw [if_neg h1, ih (fun hh => h (by simp [hh]))]; rfl
/-- How many players a club borrows, and how many it lends. -/
def loanIn (club : Int) (l : List (Int × Int)) : Int := (l.filter fun x => decide (x.1 ≠ x.2 ∧ x.2 = club)).length
def loanOut (club : Int) (l : List (Int × Int)) : Int := (l.filter fun x => decide (x.1 ≠ x.2 ∧ x.2 ≠ club ∧ x.1 = club)).length
theorem loanIn_snoc (club : Int) (l : List (Int × Int)) (x : Int × Int) : loanIn club (l ++ [x]) = loanIn club l + if x.1 ≠ x.2 ∧ x.2 = club then 1 else 0 := by
  unfold loanIn; rw [List.filter_append, List.length_append, List.filter_cons]; by_cases h : x.1 ≠ x.2 ∧ x.2 = club
  · rw [if_pos (decide_eq_true h), if_pos h]; simp
  · rw [if_neg (by simpa using h), if_neg h]; simp
theorem loanOut_snoc (club : Int) (l : List (Int × Int)) (x : Int × Int) : loanOut club (l ++ [x]) = loanOut club l + if x.1 ≠ x.2 ∧ x.2 ≠ club ∧ x.1 = club then 1 else 0 := by
  unfold loanOut; rw [List.filter_append, List.length_append, List.filter_cons]; by_cases h : x.1 ≠ x.2 ∧ x.2 ≠ club ∧ x.1 = club
  · rw [if_pos (decide_eq_true h), if_pos h]; simp
  · rw [if_neg (by simpa using h), if_neg h]; simp
theorem loan_bd (club : Int) (l : List (Int × Int)) : 0 ≤ loanIn club l ∧ loanIn club l ≤ l.length ∧ 0 ≤ loanOut club l ∧ loanOut club l ≤ l.length := by
  unfold loanIn loanOut
  have h1 := List.length_filter_le (fun x : Int × Int => decide (x.1 ≠ x.2 ∧ x.2 = club)) l
  have h2 := List.length_filter_le (fun x : Int × Int => decide (x.1 ≠ x.2 ∧ x.2 ≠ club ∧ x.1 = club)) l
  omega

/-! ### Members -/
noncomputable def membersL (r : Reg) (club player : Int) : List Int := Lib.compact (sortI (squadL r club ++ [player]))
theorem members_incr (r : Reg) (club player : Int) : (membersL r club player).Pairwise (· < ·) := compact_incr (sortI_sorted _)
theorem members_mem (r : Reg) (club player n : Int) : n ∈ membersL r club player ↔ n ∈ squadL r club ∨ n = player := by
  unfold membersL; rw [compact_mem, sortI_mem, List.mem_append, List.mem_singleton]
theorem members_len (r : Reg) (club player : Int) : (membersL r club player).length ≤ (squadL r club).length + 1 := by
  unfold membersL; have := compact_len (sortI (squadL r club ++ [player])); rw [sortI_len] at this; simpa using this
/-- The persons of some numbers. -/
def ofNums (l : List Per) (ns : List Int) : List Per := l.filter fun p => decide (p.player ∈ ns)
theorem ofNums_nil (l : List Per) : ofNums l [] = [] := by simp [ofNums]
theorem ofNums_snoc : ∀ {l : List Per} {ns : List Int} {p : Per}, l.Pairwise (fun a b => a.player < b.player) → p ∈ l → (∀ m ∈ ns, m < p.player) → ofNums l (ns ++ [p.player]) = ofNums l ns ++ [p]
  | [], _, _, _, h, _ => by cases h
  | a :: r, ns, p, hl, hp, hn => by
    rw [List.pairwise_cons] at hl
    unfold ofNums
    rw [List.filter_cons, List.filter_cons]
    by_cases e : a = p
    · subst e
      have h1 : a.player ∉ ns := fun h => by have := hn _ h; omega
      have h2 : ∀ ms : List Int, (∀ m ∈ ms, m ≤ a.player) → r.filter (fun p => decide (p.player ∈ ms)) = [] := fun ms hm => by
        rw [List.filter_eq_nil_iff]
        intro q hq
        have h3 := hl.1 q hq
        simp only [decide_eq_true_eq]
        intro h4; have := hm _ h4; omega
      rw [h2 (ns ++ [a.player]) (fun m hm => by rw [List.mem_append, List.mem_singleton] at hm; rcases hm with hm | rfl; have := hn m hm; omega; exact Int.le_refl _), h2 ns (fun m hm => by have := hn m hm; omega)]
      simp [h1]
    · have hpr : p ∈ r := by rcases List.mem_cons.1 hp with h | h; exact absurd h.symm e; exact h
      have hlt := hl.1 p hpr
      have ih := ofNums_snoc (ns := ns) hl.2 hpr hn
      unfold ofNums at ih
      rw [ih]
      by_cases h : a.player ∈ ns
      · simp [h]
      · have : ¬ (a.player = p.player) := by omega
        simp [h, this]
def perL (l : List Per) : List (Int × Per) := l.map fun p => (p.player, p)
theorem perL_ins : ∀ {l : List Per} {p : Per}, (∀ q ∈ l, q.player < p.player) → insA p.player p (perL l) = perL (l ++ [p])
  | [], _, _ => by simp [perL, insA]
  | a :: r, p, h => by
    show insA p.player p ((a.player, a) :: perL r) = _
    unfold insA
    rw [if_neg (by have := h a (by simp); omega), perL_ins (fun q hq => h q (by simp [hq]))]; rfl
theorem perL_look : ∀ {l : List Per} {n : Int}, lookA n (perL l) = l.find? fun p => decide (p.player = n)
  | [], n => by simp [perL, lookA]
  | a :: r, n => by
    show lookA n ((a.player, a) :: perL r) = _
    unfold lookA
    rw [List.find?_cons]
    by_cases h : a.player = n
    · simp [h]
    · simp [h, perL_look]
theorem find_some {l : List Per} {n : Int} {p : Per} (h : l.find? (fun p => decide (p.player = n)) = some p) : p ∈ l ∧ p.player = n := by
  refine ⟨List.mem_of_find?_eq_some h, ?_⟩
  have := List.find?_some h
  simpa using this
theorem find_none {l : List Per} {n : Int} (h : l.find? (fun p => decide (p.player = n)) = none) : ∀ p ∈ l, p.player ≠ n := by
  rw [List.find?_eq_none] at h
  intro p hp; simpa using h p hp
theorem find_uniq {l : List Per} (hl : l.Pairwise fun a b => a.player < b.player) {p q : Per} (hp : p ∈ l) (hq : q ∈ l) (e : p.player = q.player) : p = q := by
  obtain ⟨i, hi, rfl⟩ := List.getElem_of_mem hp
  obtain ⟨j, hj, rfl⟩ := List.getElem_of_mem hq
  by_cases h : i < j
  · have := List.pairwise_iff_getElem.1 hl i j hi hj h; omega
  · by_cases h2 : j < i
    · have := List.pairwise_iff_getElem.1 hl j i hj hi h2; omega
    · have : i = j := by omega
      subst this; rfl

/-! ### May a club register a player? -/
def wagesL (l : List Per) : List Int := l.map fun p => p.wage
def AllKnown (l : List Per) (ns : List Int) (day : Int) : Prop := ∀ n ∈ ns, ∃ p ∈ l, p.player = n ∧ ¬ day < p.born
open Classical in
noncomputable def mayE (q : Quo) (r : Reg) (l : List Per) (bans : List Ivl) (club player day : Int) : Int :=
  if ¬ QuoOk q then 370 else if ¬ RegGood r then 360
  else if ¬ (PersOk l ∧ l.length ≤ 8192 ∧ 0 ≤ day ∧ day ≤ 1048576 ∧ club ∈ r.clubs) then 1
  else if ¬ AllKnown l (membersL r club player) day then 1
  else if ¬ inAny day q.wins = true then 371 else if inAny day bans = true then 372
  else if (regClub r player).2.2 = true then 361
  else if squadE q (ofNums l (membersL r club player)) (loanIn club (playersL r (firsts r.ents))) (loanOut club (playersL r (firsts r.ents))) day ≠ 0 then 370
  else if 3 * (wagesL (ofNums l (membersL r club player))).sum > q.cap then 373 else 0

/-- The first of the reasons that applies. -/
structure Rsn where
  e : Int
  f : Nat
  cs : List Value
def encRs (x : Rsn) : List Value := [.int .i64 x.e, .func (.func x.f) #[] x.cs.toArray]
def r0n : Rsn := ⟨0, 0, []⟩
def firstE (p : Rsn → Bool) : List Rsn → Int
  | [] => 0
  | x :: r => if p x then x.e else firstE p r
end Go.Hw
set_option linter.unusedVariables false
set_option linter.unusedSimpArgs false
set_option maxRecDepth 100000
set_option maxHeartbeats 4000000
namespace Go.Hw
open Go
attribute [local irreducible] GO GOl GDp Val Fn Res CellsAt ValE Blk OwnS MapA Yl
open Go.Proofs (Tryd.prog)

def MetA (b : Nat) (l : List Int) : Asn := MapA (fun i : Int => .int .i64 i) (fun v : Bool => .bool v) b (metL l)


theorem players_c (h : Ro) (s : Rsh) (lg d : Int) : Res Tryd.prog 31 #[regV lg d s] h (fun u h' => ∃ bx, u = .func (.func 50) #[] #[.pointer (some ⟨bx, 0, none⟩)] ∧ CellsAt h' ⟨bx, 0, none⟩ (partL (regV lg d s))) := by
  refine Res_intro (args := [_]) ts_ok Go.Proofs.Tryd.func31 rfl rfl fun w0 X0 => ?_
  repeat' (first | apply GO_seq | apply GO_region | apply GOl_nil | (apply GOl_pv; exact rfl; exact rfl; exact rfl) | (apply GOl_to; exact rfl; exact rfl; exact rfl; (first | (apply OpTo_box; exact rfl; intro b; skip))))
  refine GO_relB (by (repeat (first | exact Take.here | apply Take.there)); done) ?_
  intro h1 hle1 hc1
  (first | (apply GO_retR1; exact rfl; exact rfl; exact rfl))
  exact ⟨b, rfl, hc1⟩

theorem list_split {α : Type} (d : α) {l : List α} {k n : Nat} (hlen : l.length = n) (hk : k < n) : l = l.take k ++ l.getD k d :: l.drop (k + 1) := by
  rw [← drop_consD d hlen hk, List.take_append_drop]
theorem playersL_one (r : Reg) (p : Int) : playersL r [p] = if (regClub r p).2.2 then [((regClub r p).1, (regClub r p).2.1)] else [] := by cases h : (regClub r p).2.2 <;> simp [playersL, h]
/-- What the entries up to k hand over; and what comes behind. -/
theorem playersL_step (r : Reg) {n k : Nat} (hlen : r.ents.length = n) (hk : k < n) (hnew : (r.ents.getD k e0).player ∉ firsts (r.ents.take k)) :
    ∃ rest, playersL r (firsts r.ents) = playersL r (firsts (r.ents.take k)) ++ (playersL r [(r.ents.getD k e0).player] ++ rest) := by
  have key : ∀ (a b : List Ent), ∃ c, firsts (a ++ b) = firsts a ++ c := by
    intro a b
    induction b using rev_ind with
    | h0 => exact ⟨[], by simp⟩
    | h1 b x ih =>
      obtain ⟨c, hc⟩ := ih
      rw [← List.append_assoc, firsts_snoc]
      split
      · exact ⟨c, hc⟩
      · exact ⟨c ++ [x.player], by rw [hc, List.append_assoc]⟩
  have e := list_split e0 hlen hk
  have e1 : r.ents = (r.ents.take k ++ [r.ents.getD k e0]) ++ r.ents.drop (k + 1) := by rw [List.append_assoc]; exact e
  obtain ⟨c, hc⟩ := key (r.ents.take k ++ [r.ents.getD k e0]) (r.ents.drop (k + 1))
  rw [← e1, firsts_snoc, if_neg hnew] at hc
  exact ⟨playersL r c, by rw [hc, playersL_app, playersL_app, List.append_assoc]⟩


theorem playersSeq (h : Ro) (bx : Nat) (s : Rsh) (r : Reg) (hb : CellsAt h ⟨bx, 0, none⟩ (partL (regV r.league r.day s))) (hr : RegAt h s r) :
    SeqFn Tryd.prog 50 [.pointer (some ⟨bx, 0, none⟩)] encOP (playersL r (firsts r.ents)) h := by
  intro lid I Ix mI mIx hround Es h1 hle h0
  refine Fn_intro (args := [_, _]) ts_ok Go.Proofs.Tryd.func50 rfl rfl fun w0 X0 => ?_
  have hlen := hr.ents.len
  have hne := hr.ne
  have hb1 := hb.le hle
  repeat' (first | apply GO_seq | apply GO_block | apply GO_region | apply GOl_nil | (apply GOl_pv; exact rfl; exact rfl; exact rfl) | (apply GOl_ov; exact rfl; exact rfl; (first | (apply OV_load; exact rfl; first | exact Lv_ro rfl (by assumption) rfl | exact Lv_roF rfl (by assumption) rfl | exact Lv_roF2 rfl (by assumption) rfl | exact Lv_roF3 rfl (by assumption) rfl)); exact (by repeat' (first | exact trivial | apply And.intro | exact List.Mem.head _ | apply List.Mem.tail))) | (apply GOl_to; exact rfl; exact rfl; exact rfl; (first | (apply OpTo_makeMap (fun i : Int => .int .i64 i) (fun v : Bool => .bool v); intro bm; skip))))
  refine GO_while (X := Nat × List Asn × Ro) (fun x => x.1 ≤ s.ne ∧ Le h x.2.2 ∧ I (playersL r (firsts (r.ents.take x.1))) x.2.1 x.2.2) (fun x => s.ne - x.1)
    (fun x => [(13, .int .i64 x.1), (12, .int .i64 s.ne), (11, .slice s.ae s.ne s.ce), (3, .map (some bm)), (0, .func (.yield lid) #[] #[]), (1, .pointer (some ⟨bx, 0, none⟩))])
    (fun x => MetA bm (firsts (r.ents.take x.1)) :: x.2.1) (fun x => x.2.2) (0, Es, h1) ⟨by dsimp only; omega, hle, h0⟩ (by (repeat (first | exact trivial | refine ⟨rfl, ?_⟩)); done) rfl rfl ?_
  rintro ⟨k, Es1, hk⟩ ⟨hkn, hlk, hI⟩ ih
  dsimp only at hkn hlk hI ih ⊢
  have hbk := hb.le hlk
  by_cases hkn2 : k < s.ne
  · have a1 := hr.ents.addrD hkn2
    have c1 := (hr.ents.cellsD e0 hkn2).le hlk
    have et := take_snocQ e0 hlen hkn2
    have hstep := playersL_step r hlen hkn2
    have hfl := firsts_len (r.ents.take k)
    rw [List.length_take] at hfl
    have hclub : ∀ h', Le h h' → ∀ p, Val Tryd.prog 29 #[regV r.league r.day s, .int .i64 p] h' (.tuple #[.int .i64 (regClub r p).1, .int .i64 (regClub r p).2.1, .bool (regClub r p).2.2]) := fun h' hl p => regClub_c h' s r (hr.le hl) p
    generalize hx : r.ents.getD k e0 = x at *
    have hlook := metL_look (firsts (r.ents.take k)) x.player
    by_cases hold : x.player ∈ firsts (r.ents.take k)
    · rw [if_pos hold] at hlook
      have e1 : firsts (r.ents.take (k + 1)) = firsts (r.ents.take k) := by rw [et, firsts_snoc, if_pos hold]
      repeat' (first | apply GO_seq | apply GO_skip | apply GO_block | apply GO_region | apply GOl_nil | (apply GO_exit; exact rfl) | (apply GOl_add; exact rfl; exact rfl; exact rfl; omega; exact rfl; exact rfl) | (apply GOl_pv; exact rfl; exact rfl; exact rfl) | (apply GOl_load; exact rfl; exact Ld_blk rfl (by (repeat (first | exact List.Mem.head _ | apply List.Mem.tail)); done) rfl; exact rfl; exact rfl) | (apply GOl_ov; exact rfl; exact rfl; (first | (apply OV_idxS (j := k); exact rfl; exact rfl; exact rfl; exact rfl; exact rfl; exact a1; (with_reducible exact rfl); omega) | (apply OV_load; exact rfl; exact Lv_ro rfl c1 rfl) | (apply OV_lookup (ek := fun i : Int => .int .i64 i) (ev := fun v : Bool => .bool v) (b := bm) (m := metL (firsts (r.ents.take k))) (r := some true) K3; exact rfl; exact rfl; exact rfl; exact rfl; exact rfl; exact hlook)); exact (by repeat' (first | exact trivial | apply And.intro | exact List.Mem.head _ | apply List.Mem.tail))) | (apply GOl_to; exact rfl; exact rfl; exact rfl; (first | (apply OpTo_store; exact rfl; exact rfl; exact rfl; exact (by (repeat (first | exact Repl.here | apply Repl.there)); done); exact rfl; exact rfl; exact rfl; skip) | (apply OpTo_alloc; exact rfl; intro b; skip))) | (apply GO_cond; exact rfl; all_goals intro hc; all_goals try simp only [ltI_t, ltI_f, leI_t, leI_f, eqI_t, eqI_f, Bool.not_eq_true', Bool.not_eq_false', decide_eq_true_eq, decide_eq_false_iff_not, reduceCtorEq] at hc; all_goals try (exfalso; omega)))
      have h3 := ih (k + 1, Es1, hk) ⟨by show k + 1 ≤ s.ne; omega, hlk, by show I (playersL r (firsts (r.ents.take (k + 1)))) _ _; rw [e1]; exact hI⟩ (by show s.ne - (k + 1) < s.ne - k; omega)
      rw [e1] at h3
      refine GO_drop .here ?_
      exact GO_keep (by (repeat (first | exact trivial | refine ⟨rfl, ?_⟩)); done) h3
    · rw [if_neg hold] at hlook
      obtain ⟨rest, hrest⟩ := hstep hold
      have e1 : firsts (r.ents.take (k + 1)) = firsts (r.ents.take k) ++ [x.player] := by rw [et, firsts_snoc, if_neg hold]
      have hins := metL_ins (firsts (r.ents.take k)) x.player hold
      have hclb := hclub hk hlk x.player
      have hp1 : playersL r [x.player] = if (regClub r x.player).2.2 then [((regClub r x.player).1, (regClub r x.player).2.1)] else [] := playersL_one r x.player
      rw [hp1] at hrest
      have hp2 : playersL r (firsts (r.ents.take (k + 1))) = playersL r (firsts (r.ents.take k)) ++ if (regClub r x.player).2.2 then [((regClub r x.player).1, (regClub r x.player).2.1)] else [] := by rw [e1, playersL_app, hp1]
      generalize regClub r x.player = rc at *
      obtain ⟨o, pl, ok⟩ := rc
      dsimp only at hclb hrest hp2
      have hy : ok = true → Yl Tryd.prog lid [.int .i64 o, .int .i64 pl] Es1 hk fun v Es' h' => (v = .bool true ∧ I (playersL r (firsts (r.ents.take (k + 1)))) Es' h') ∨ (v = .bool false ∧ Ix (playersL r (firsts (r.ents.take (k + 1)))) Es' h') := fun hok => by
        rw [hok] at hrest hp2
        rw [if_pos rfl] at hrest hp2
        rw [hp2]
        exact hround _ (o, pl) rest Es1 hk hrest hlk hI
      repeat' (first | apply GO_seq | apply GO_skip | apply GO_inBlock | apply GO_block | apply GO_region | apply GOl_nil | (apply GOl_unwanted; exact rfl; exact rfl) | (apply GOl_add; exact rfl; exact rfl; exact rfl; omega; exact rfl; exact rfl) | (apply GOl_pv; exact rfl; exact rfl; exact rfl) | (apply GOl_load; exact rfl; exact Ld_blk rfl (by (repeat (first | exact List.Mem.head _ | apply List.Mem.tail)); done) rfl; exact rfl; exact rfl) | (apply GOl_ov; exact rfl; exact rfl; (first | (apply OV_idxS (j := k); exact rfl; exact rfl; exact rfl; exact rfl; exact rfl; exact a1; (with_reducible exact rfl); omega) | (apply OV_load; exact rfl; exact Lv_ro rfl c1 rfl) | (apply OV_load; exact rfl; exact Lv_ro rfl hbk rfl) | (apply OV_lookup (ek := fun i : Int => .int .i64 i) (ev := fun v : Bool => .bool v) (b := bm) (m := metL (firsts (r.ents.take k))) (r := none) K3; exact rfl; exact rfl; exact rfl; exact rfl; exact rfl; exact hlook)); exact (by repeat' (first | exact trivial | apply And.intro | exact List.Mem.head _ | apply List.Mem.tail))) | (apply GOl_to; exact rfl; exact rfl; exact rfl; (first | (apply OpTo_store; exact rfl; exact rfl; exact rfl; exact (by (repeat (first | exact Repl.here | apply Repl.there)); done); exact rfl; exact rfl; exact rfl; skip) | (apply OpTo_alloc; exact rfl; intro b; skip) | (apply OpTo_mapUpdate (ek := fun i : Int => .int .i64 i) (ev := fun v : Bool => .bool v) (b := bm) (m := metL (firsts (r.ents.take k))) (u := true) K3; exact rfl; exact rfl; exact rfl; exact rfl; exact rfl; exact rfl; rw [hins]; exact (by (repeat (first | exact Repl.here | apply Repl.there)); done); skip) | (apply OpTo_val; exact rfl; exact has29; exact hclb; skip) | (refine OpTo_perm (List.perm_append_comm (l₁ := [_, _])) ?_; apply OpTo_yield (Es0 := Es1) (Fs := [_, _]); exact rfl; exact rfl; exact rfl; exact hy (by assumption); rintro v E2 h2 hle2 (⟨rfl, hP⟩ | ⟨rfl, hP⟩); all_goals skip))) | (apply GO_cond; exact rfl; all_goals intro hc; all_goals try simp only [ltI_t, ltI_f, leI_t, leI_f, eqI_t, eqI_f, Bool.not_eq_true', Bool.not_eq_false', decide_eq_true_eq, decide_eq_false_iff_not, reduceCtorEq] at hc; all_goals try (exfalso; omega)) | (apply GOl_split; exact rfl; exact rfl; all_goals intro hc; all_goals try simp only [ltI_t, ltI_f, leI_t, leI_f, eqI_t, eqI_f, Bool.not_eq_true', Bool.not_eq_false', decide_eq_true_eq, decide_eq_false_iff_not, reduceCtorEq] at hc; all_goals try (exfalso; omega)))
      all_goals first
        | (have h3 := ih (k + 1, E2, h2) ⟨by show k + 1 ≤ s.ne; omega, hlk.trans hle2, hP⟩ (by show s.ne - (k + 1) < s.ne - k; omega)
           rw [e1] at h3
           refine GO_perm (List.perm_append_comm (l₁ := E2) (l₂ := [_, _])) (GO_drop .here ?_)
           exact GO_keep (by (repeat (first | exact trivial | refine ⟨rfl, ?_⟩)); done) h3)
        | (refine GO_retS (rs := []) (vs := []) (Fs := E2) rfl rfl trivial (List.sublist_append_left _ _) (.inr ⟨_, rest, ?_, hP⟩)
           rw [hp2, hrest, List.append_assoc])
        | (have hok : ok = false := by assumption
           rw [hok] at hp2
           have h3 := ih (k + 1, Es1, hk) ⟨by show k + 1 ≤ s.ne; omega, hlk, by show I (playersL r (firsts (r.ents.take (k + 1)))) _ _; rw [hp2]; simpa using hI⟩ (by show s.ne - (k + 1) < s.ne - k; omega)
           rw [e1] at h3
           refine GO_drop .here ?_
           exact GO_keep (by (repeat (first | exact trivial | refine ⟨rfl, ?_⟩)); done) h3)
       
  · have ht : r.ents.take k = r.ents := List.take_of_length_le (by omega)
    rw [ht] at hI
    repeat' (first | apply GO_seq | apply GO_region | apply GOl_nil | (apply GO_exit; exact rfl) | (apply GOl_pv; exact rfl; exact rfl; exact rfl) | (apply GO_cond; exact rfl; all_goals intro hc; all_goals try simp only [ltI_t, ltI_f, leI_t, leI_f, eqI_t, eqI_f, Bool.not_eq_true', Bool.not_eq_false', decide_eq_true_eq, decide_eq_false_iff_not, reduceCtorEq] at hc; all_goals try (exfalso; omega)))
    refine GO_drop .here ?_
    exact GO_end (rs := []) (vs := []) rfl rfl trivial (.inl hI)


theorem firstRs_c (h : Ro) (A : Option Addr) (n c : Nat) (l : List Rsn) (hx : SlOf encRs 2 h A n l) (hn : n ≤ 1000000000) (p : Rsn → Bool) (hf : ∀ x ∈ l, Has Tryd.prog x.f ∧ Val Tryd.prog x.f ([] ++ [] ++ x.cs).toArray h (.bool (p x))) :
    Val Tryd.prog 24 #[.slice A n c] h (.int .i64 (firstE p l)) := by
  refine Val_intro (args := [_]) ts_ok Go.Proofs.Tryd.func24 rfl rfl fun w0 X0 => ?_
  have hlen := hx.len
  repeat' (first | apply GO_seq | apply GO_block | apply GO_region | apply GOl_nil | (apply GOl_pv; exact rfl; exact rfl; exact rfl))
  refine GO_loopT (X := Nat) (fun k => k ≤ n ∧ firstE p (l.drop k) = firstE p l) (fun k => n - k) (fun k => [(7, .int .i64 k), (6, .int .i64 n), (5, .slice A n c)]) (fun _ => []) (fun _ => h) 0 ⟨by omega, rfl⟩ (by (repeat (first | exact trivial | refine ⟨rfl, ?_⟩)); done) (by (repeat (first | exact Takes_nil | (apply Takes_cons; exact (by (repeat (first | exact Take.here | apply Take.there)); done)))); done) rfl ?_
  rintro k ⟨hk, hI⟩ ih
  by_cases hkn : k < n
  · have a1 := hx.addrD hkn
    have c1 := hx.cellsD r0n hkn
    have hd := drop_consD r0n hlen hkn
    obtain ⟨hh, hv⟩ := hf _ (getD_mem r0n (show k < l.length by omega))
    generalize l.getD k r0n = x at *
    repeat' (first | apply GO_seq | apply GO_skip | apply GO_inBlock | apply GO_block | apply GO_region | apply GOl_nil | (apply GOl_add; exact rfl; exact rfl; exact rfl; omega; exact rfl; exact rfl) | (apply GOl_pv; exact rfl; exact rfl; exact rfl) | (apply GOl_load; exact rfl; exact Ld_blk rfl (by (repeat (first | exact List.Mem.head _ | apply List.Mem.tail)); done) rfl; exact rfl; exact rfl) | (apply GOl_ov; exact rfl; exact rfl; (first | (apply OV_idxS (j := k); exact rfl; exact rfl; exact rfl; exact rfl; exact rfl; exact a1; (with_reducible exact rfl); omega) | (apply OV_load; exact rfl; exact Lv_ro rfl c1 rfl)); exact (by repeat' (first | exact trivial | apply And.intro | exact List.Mem.head _ | apply List.Mem.tail))) | (apply GOl_to; exact rfl; exact rfl; exact rfl; (first | (apply OpTo_store; exact rfl; exact rfl; exact rfl; exact (by (repeat (first | exact Repl.here | apply Repl.there)); done); exact rfl; exact rfl; exact rfl; skip) | (apply OpTo_alloc; exact rfl; intro b; skip) | (apply OpTo_valF (f := x.f) (fs := []) (vs := []) (cs := x.cs); exact rfl; exact rfl; exact hh; exact hv; skip))) | (apply GO_cond; exact rfl; all_goals intro hc; all_goals try simp only [ltI_t, ltI_f, leI_t, leI_f, eqI_t, eqI_f, Bool.not_eq_true', Bool.not_eq_false', decide_eq_true_eq, decide_eq_false_iff_not, reduceCtorEq] at hc; all_goals try (exfalso; omega)) | (apply GO_retV1; exact rfl; exact rfl; exact rfl))
    · rw [← hI, hd, firstE, if_pos (by assumption)]
    · have h3 := ih (k + 1) ⟨by omega, by rw [← hI, hd, firstE, if_neg (by simp [*])]⟩ (by omega)
      refine GO_fit (by (repeat (first | exact trivial | refine ⟨rfl, ?_⟩)); done) (by (repeat (first | exact Takes_nil | (apply Takes_cons; exact (by (repeat (first | exact Take.here | apply Take.there)); done)))); done) (h3)
  · repeat' (first | apply GO_seq | apply GO_region | apply GOl_nil | (apply GO_exit; exact rfl) | (apply GOl_pv; exact rfl; exact rfl; exact rfl) | (apply GO_cond; exact rfl; all_goals intro hc; all_goals try simp only [ltI_t, ltI_f, leI_t, leI_f, eqI_t, eqI_f, Bool.not_eq_true', Bool.not_eq_false', decide_eq_true_eq, decide_eq_false_iff_not, reduceCtorEq] at hc; all_goals try (exfalso; omega)) | (apply GO_retV1; exact rfl; exact rfl; exact rfl))
    rw [← hI, show k = l.length by omega, List.drop_length]; rfl

/-! ### The five reasons -/


theorem may1_c (h : Ro) (b1 b2 : Nat) (day : Int) (q : Quo) (A : Option Addr) (c : Nat) (h1 : CellsAt h ⟨b1, 0, none⟩ [.int .i64 day]) (h2 : CellsAt h ⟨b2, 0, none⟩ (partL (quoV q A c))) (hx : SlOf encV 2 h A q.wins.length q.wins) (hn : q.wins.length ≤ 1000000000) :
    Val Tryd.prog 25 #[.pointer (some ⟨b1, 0, none⟩), .pointer (some ⟨b2, 0, none⟩)] h (.bool (!inAny day q.wins)) := by
  refine Val_intro (args := [_, _]) ts_ok Go.Proofs.Tryd.func25 rfl rfl fun w0 X0 => ?_
  repeat' (first | apply GO_seq | apply GO_region | apply GOl_nil | (apply GOl_pv; exact rfl; exact rfl; exact rfl) | (apply GOl_ov; exact rfl; exact rfl; (first | (apply OV_load; exact rfl; exact Lv_ro rfl h1 rfl) | (apply OV_load; exact rfl; exact Lv_roF rfl h2 rfl)); exact (by repeat' (first | exact trivial | apply And.intro | exact List.Mem.head _ | apply List.Mem.tail))) | (apply GOl_to; exact rfl; exact rfl; exact rfl; (first | (apply OpTo_val; exact rfl; exact has26; exact in_c _ _ _ _ _ q.wins hx hn; skip))) | (apply GO_retV1; exact rfl; exact rfl; exact rfl))
  all_goals rfl


theorem may2_c (h : Ro) (b1 b2 : Nat) (day : Int) (A : Option Addr) (n c : Nat) (l : List Ivl) (h1 : CellsAt h ⟨b1, 0, none⟩ [.int .i64 day]) (h2 : CellsAt h ⟨b2, 0, none⟩ [.slice A n c]) (hx : SlOf encV 2 h A n l) (hn : n ≤ 1000000000) :
    Val Tryd.prog 27 #[.pointer (some ⟨b1, 0, none⟩), .pointer (some ⟨b2, 0, none⟩)] h (.bool (inAny day l)) := by
  refine Val_intro (args := [_, _]) ts_ok Go.Proofs.Tryd.func27 rfl rfl fun w0 X0 => ?_
  repeat' (first | apply GO_seq | apply GO_region | apply GOl_nil | (apply GOl_pv; exact rfl; exact rfl; exact rfl) | (apply GOl_ov; exact rfl; exact rfl; (first | (apply OV_load; exact rfl; exact Lv_ro rfl h1 rfl) | (apply OV_load; exact rfl; exact Lv_ro rfl h2 rfl)); exact (by repeat' (first | exact trivial | apply And.intro | exact List.Mem.head _ | apply List.Mem.tail))) | (apply GOl_to; exact rfl; exact rfl; exact rfl; (first | (apply OpTo_val; exact rfl; exact has26; exact in_c _ _ _ _ _ l hx hn; skip))) | (apply GO_retV1; exact rfl; exact rfl; exact rfl))
  all_goals rfl


theorem may3_c (h : Ro) (b1 b2 : Nat) (s : Rsh) (r : Reg) (p : Int) (h1 : CellsAt h ⟨b1, 0, none⟩ (partL (regV r.league r.day s))) (h2 : CellsAt h ⟨b2, 0, none⟩ [.int .i64 p]) (hr : RegAt h s r) :
    Val Tryd.prog 28 #[.pointer (some ⟨b1, 0, none⟩), .pointer (some ⟨b2, 0, none⟩)] h (.bool (regClub r p).2.2) := by
  refine Val_intro (args := [_, _]) ts_ok Go.Proofs.Tryd.func28 rfl rfl fun w0 X0 => ?_
  repeat' (first | apply GO_seq | apply GO_region | apply GOl_nil | (apply GOl_pv; exact rfl; exact rfl; exact rfl) | (apply GOl_ov; exact rfl; exact rfl; (first | (apply OV_load; exact rfl; exact Lv_ro rfl h1 rfl) | (apply OV_load; exact rfl; exact Lv_ro rfl h2 rfl)); exact (by repeat' (first | exact trivial | apply And.intro | exact List.Mem.head _ | apply List.Mem.tail))) | (apply GOl_to; exact rfl; exact rfl; exact rfl; (first | (apply OpTo_val; exact rfl; exact has29; exact regClub_c _ s r hr p; skip))) | (apply GO_retV1; exact rfl; exact rfl; exact rfl))
  all_goals rfl


theorem may4_c (h : Ro) (hG : LenG h) (b1 b2 b3 b4 b5 : Nat) (s : Rsh) (r : Reg) (club day : Int) (q : Quo) (A : Option Addr) (c : Nat) (B : Option Addr) (n d : Nat) (l : List Per)
    (h1 : CellsAt h ⟨b1, 0, none⟩ (partL (regV r.league r.day s))) (h2 : CellsAt h ⟨b2, 0, none⟩ [.int .i64 club]) (h3 : CellsAt h ⟨b3, 0, none⟩ (partL (quoV q A c))) (h4 : CellsAt h ⟨b4, 0, none⟩ [.slice B n d]) (h5 : CellsAt h ⟨b5, 0, none⟩ [.int .i64 day])
    (hr : RegAt h s r) (hx : SlOf encV 2 h A q.wins.length q.wins) (hn : q.wins.length ≤ 1000000000) (hl : SlOf encP 4 h B n l) (hl2 : n ≤ 1000000000) :
    Val Tryd.prog 30 #[.pointer (some ⟨b1, 0, none⟩), .pointer (some ⟨b2, 0, none⟩), .pointer (some ⟨b3, 0, none⟩), .pointer (some ⟨b4, 0, none⟩), .pointer (some ⟨b5, 0, none⟩)] h
      (.bool (!eqI (squadE q l (loanIn club (playersL r (firsts r.ents))) (loanOut club (playersL r (firsts r.ents))) day) 0)) := by
  refine Val_intro (args := [_, _, _, _, _]) ts_ok Go.Proofs.Tryd.func30 rfl rfl fun w0 X0 => ?_
  have hpl := playersL_len r (firsts r.ents)
  have hfl := firsts_len r.ents
  have hlen := hr.ents.len
  have hne := hr.ne
  repeat' (first | apply GO_seq | apply GO_block | apply GO_region | apply GOl_nil | (apply GOl_pv; exact rfl; exact rfl; exact rfl) | (apply GOl_ov; exact rfl; exact rfl; (first | (apply OV_load; exact rfl; exact Lv_ro rfl h1 rfl)); exact (by repeat' (first | exact trivial | apply And.intro | exact List.Mem.head _ | apply List.Mem.tail))) | (apply GOl_to; exact rfl; exact rfl; exact rfl; (first | (apply OpTo_store; exact rfl; exact rfl; exact rfl; exact (by (repeat (first | exact Repl.here | apply Repl.there)); done); exact rfl; exact rfl; exact rfl; skip) | (apply OpTo_alloc; exact rfl; intro b; skip) | (apply OpTo_res; exact rfl; exact has31; exact players_c _ s r.league r.day; rintro vr hs1 hle1 ⟨bx, rfl, hcb⟩; skip))))
  rename_i b0
  have hseq := playersSeq hs1 bx s r hcb (hr.le hle1)
  generalize playersL r (firsts r.ents) = pl at *
  refine GO_rangeFunc (enc := encOP) (xs := pl) (gf := 50) (lb := [.pointer (some ⟨bx, 0, none⟩)]) rfl rfl has50 hseq (fun _ => rfl) rfl
    (fun pre Es _ => Es = [Blk b 3 [.int .i64 (loanOut club pre)], Blk b0 3 [.int .i64 (loanIn club pre)]]) (fun _ _ _ _ => False)
    (fun _ _ _ _ _ h => h) (fun _ _ _ _ _ _ h => h.elim) rfl ?_ ?_ (fun _ _ _ _ _ _ _ _ h => h.elim)
  · rintro lid r0 w1 X1 pre ⟨o, p⟩ post Es1 h1' hx' rfl hle hst
    have hpl2 : pre.length + 1 ≤ pl.length := by rw [hx']; simp
    have hbd := loan_bd club pre
    have e1 := loanIn_snoc club pre (o, p)
    have e2 := loanOut_snoc club pre (o, p)
    dsimp only at e1 e2
    rw [e1, e2]
    have hcl := (h2.le hle1).le hle
    repeat' (first | apply GO_seq | apply GO_skip | apply GO_inBlock | apply GO_block | apply GO_region | apply GOl_nil | (apply GO_begin; exact rfl; exact (by (repeat (first | exact Take.here | apply Take.there)); done); exact hst) | (apply GOl_add; exact rfl; exact rfl; exact rfl; omega; exact rfl; exact rfl) | (apply GOl_pv; exact rfl; exact rfl; exact rfl) | (apply GOl_load; exact rfl; exact Ld_blk rfl (by (repeat (first | exact List.Mem.head _ | apply List.Mem.tail)); done) rfl; exact rfl; exact rfl) | (apply GOl_ov; exact rfl; exact rfl; (first | (apply OV_load; exact rfl; exact Lv_ro rfl hcl rfl)); exact (by repeat' (first | exact trivial | apply And.intro | exact List.Mem.head _ | apply List.Mem.tail))) | (apply GOl_to; exact rfl; exact rfl; exact rfl; (first | (apply OpTo_store; exact rfl; exact rfl; exact rfl; exact (by (repeat (first | exact Repl.here | apply Repl.there)); done); exact rfl; exact rfl; exact rfl; skip))) | (apply GO_cond; exact rfl; all_goals intro hc; all_goals try simp only [ltI_t, ltI_f, leI_t, leI_f, eqI_t, eqI_f, Bool.not_eq_true', Bool.not_eq_false', decide_eq_true_eq, decide_eq_false_iff_not, reduceCtorEq] at hc; all_goals try (exfalso; omega)))
    all_goals first
      | (refine GO_take (Es' := [LoopA lid { r0 with state := .busy }, Blk b 3 [.int .i64 (loanOut club pre)], Blk b0 3 [.int .i64 (loanIn club pre + 1)]]) (by (repeat (first | exact Takes_nil | (apply Takes_cons; exact (by (repeat (first | exact Take.here | apply Take.there)); done)))); done) (GO_rEnd (r0 := r0) rfl .here ?_); rw [if_neg (show ¬ (o ≠ p ∧ p ≠ club ∧ o = club) by omega), if_pos (show o ≠ p ∧ p = club by omega), Int.add_zero])
      | (refine GO_take (Es' := [LoopA lid { r0 with state := .busy }, Blk b 3 [.int .i64 (loanOut club pre + 1)], Blk b0 3 [.int .i64 (loanIn club pre)]]) (by (repeat (first | exact Takes_nil | (apply Takes_cons; exact (by (repeat (first | exact Take.here | apply Take.there)); done)))); done) (GO_rEnd (r0 := r0) rfl .here ?_); rw [if_pos (show o ≠ p ∧ p ≠ club ∧ o = club by omega), if_neg (show ¬ (o ≠ p ∧ p = club) by omega), Int.add_zero])
      | (refine GO_take (Es' := [LoopA lid { r0 with state := .busy }, Blk b 3 [.int .i64 (loanOut club pre)], Blk b0 3 [.int .i64 (loanIn club pre)]]) (by (repeat (first | exact Takes_nil | (apply Takes_cons; exact (by (repeat (first | exact Take.here | apply Take.there)); done)))); done) (GO_rEnd (r0 := r0) rfl .here ?_); rw [if_neg (show ¬ (o ≠ p ∧ p ≠ club ∧ o = club) by omega), if_neg (show ¬ (o ≠ p ∧ p = club) by omega), Int.add_zero, Int.add_zero])
     
  · rintro D h1' Es1 hle rfl
    have hle2 := hle1.trans hle
    have g3 := h3.le hle2
    have g4 := h4.le hle2
    have g5 := h5.le hle2
    have hsq := squad_c h1' (hG.le hle2) q A c (hx.le hle2) hn B n d l (hl.le hle2) hl2 (loanIn club pl) (loanOut club pl) day
    repeat' (first | apply GO_seq | apply GO_inBlock | apply GO_region | apply GOl_nil | (apply GOl_pv; exact rfl; exact rfl; exact rfl) | (apply GOl_load; exact rfl; exact Ld_blk rfl (by (repeat (first | exact List.Mem.head _ | apply List.Mem.tail)); done) rfl; exact rfl; exact rfl) | (apply GOl_ov; exact rfl; exact rfl; (first | (apply OV_load; exact rfl; exact Lv_ro rfl g3 rfl) | (apply OV_load; exact rfl; exact Lv_ro rfl g4 rfl) | (apply OV_load; exact rfl; exact Lv_ro rfl g5 rfl)); exact (by repeat' (first | exact trivial | apply And.intro | exact List.Mem.head _ | apply List.Mem.tail))) | (apply GOl_to; exact rfl; exact rfl; exact rfl; (first | (apply OpTo_val; exact rfl; exact has11; exact hsq; skip))))
    refine GO_rt (Rt_mark rfl (by (repeat (first | exact Take.here | apply Take.there)); done) (Rt_S (rs := [.tmp 5]) (vs := [.bool _]) rfl rfl ⟨rfl, trivial⟩ (List.nil_sublist _) ⟨rfl, rfl⟩))

theorem wages_bd {l : List Per} (hl : ∀ p ∈ l, PerOk p) : 0 ≤ (wagesL l).sum ∧ (wagesL l).sum ≤ 1099511627776 * l.length := by
  induction l with
  | nil => simp [wagesL]
  | cons a r ih =>
    have h1 := hl a (by simp)
    have h2 := ih fun n hn => hl n (by simp [hn])
    obtain ⟨_, _, _, _, h3, h4⟩ := h1
    simp only [wagesL, List.map_cons, List.sum_cons, List.length_cons] at h2 ⊢
    omega


theorem may5_c (h : Ro) (b4 b3 : Nat) (q : Quo) (A : Option Addr) (c : Nat) (B : Option Addr) (n d : Nat) (l : List Per) (h4 : CellsAt h ⟨b4, 0, none⟩ [.slice B n d]) (h3 : CellsAt h ⟨b3, 0, none⟩ (partL (quoV q A c)))
    (hl : SlOf encP 4 h B n l) (hl2 : n ≤ 10000) (hok : ∀ p ∈ l, PerOk p) :
    Val Tryd.prog 32 #[.pointer (some ⟨b4, 0, none⟩), .pointer (some ⟨b3, 0, none⟩)] h (.bool (ltI q.cap (3 * (wagesL l).sum))) := by
  refine Val_intro (args := [_, _]) ts_ok Go.Proofs.Tryd.func32 rfl rfl fun w0 X0 => ?_
  have hlen := hl.len
  repeat' (first | apply GO_seq | apply GO_block | apply GO_region | apply GOl_nil | (apply GOl_pv; exact rfl; exact rfl; exact rfl) | (apply GOl_ov; exact rfl; exact rfl; (first | (apply OV_load; exact rfl; exact Lv_ro rfl h4 rfl)); exact (by repeat' (first | exact trivial | apply And.intro | exact List.Mem.head _ | apply List.Mem.tail))))
  refine GO_loopT (X := Nat × Int) (fun x => x.1 ≤ n ∧ x.2 = (wagesL (l.take x.1)).sum) (fun x => n - x.1) (fun x => [(8, .int .i64 x.1), (7, .int .i64 n), (6, .slice B n d), (3, .int .i64 x.2), (1, .pointer (some ⟨b3, 0, none⟩))]) (fun _ => []) (fun _ => h) (0, 0) ⟨by dsimp only; omega, by simp [wagesL]⟩ (by (repeat (first | exact trivial | refine ⟨rfl, ?_⟩)); done) (by (repeat (first | exact Takes_nil | (apply Takes_cons; exact (by (repeat (first | exact Take.here | apply Take.there)); done)))); done) rfl ?_
  rintro ⟨k, w⟩ ⟨hk, hw⟩ ih
  dsimp only at hk hw ih ⊢
  have hbd := wages_bd (l := l.take k) fun p hp => hok p (List.mem_of_mem_take hp)
  rw [← hw, List.length_take] at hbd
  by_cases hkn : k < n
  · have a1 := hl.addrD hkn
    have c1 := hl.cellsD p0 hkn
    have hm := hok _ (getD_mem p0 (show k < l.length by omega))
    have ht := take_snocQ p0 hlen hkn
    generalize l.getD k p0 = x at *
    have hs : (wagesL (l.take (k + 1))).sum = w + x.wage := by rw [ht, hw]; simp [wagesL]
    have hm5 := hm.2.2.2.2
    repeat' (first | apply GO_seq | apply GO_skip | apply GO_inBlock | apply GO_block | apply GO_region | apply GOl_nil | (apply GOl_add; exact rfl; exact rfl; exact rfl; omega; exact rfl; exact rfl) | (apply GOl_pv; exact rfl; exact rfl; exact rfl) | (apply GOl_load; exact rfl; exact Ld_blk rfl (by (repeat (first | exact List.Mem.head _ | apply List.Mem.tail)); done) rfl; exact rfl; exact rfl) | (apply GOl_ov; exact rfl; exact rfl; (first | (apply OV_idxS (j := k); exact rfl; exact rfl; exact rfl; exact rfl; exact rfl; exact a1; (with_reducible exact rfl); omega) | (apply OV_load; exact rfl; exact Lv_ro rfl c1 rfl)); exact (by repeat' (first | exact trivial | apply And.intro | exact List.Mem.head _ | apply List.Mem.tail))) | (apply GOl_to; exact rfl; exact rfl; exact rfl; (first | (apply OpTo_store; exact rfl; exact rfl; exact rfl; exact (by (repeat (first | exact Repl.here | apply Repl.there)); done); exact rfl; exact rfl; exact rfl; skip) | (apply OpTo_alloc; exact rfl; intro b; skip))) | (apply GO_cond; exact rfl; all_goals intro hc; all_goals try simp only [ltI_t, ltI_f, leI_t, leI_f, eqI_t, eqI_f, Bool.not_eq_true', Bool.not_eq_false', decide_eq_true_eq, decide_eq_false_iff_not, reduceCtorEq] at hc; all_goals try (exfalso; omega)))
    have h3 := ih (k + 1, w + x.wage) ⟨by dsimp only; omega, by dsimp only; rw [hs]⟩ (by dsimp only; omega)
    refine GO_fit (by (repeat (first | exact trivial | refine ⟨rfl, ?_⟩)); done) (by (repeat (first | exact Takes_nil | (apply Takes_cons; exact (by (repeat (first | exact Take.here | apply Take.there)); done)))); done) (h3)
  · rw [List.take_of_length_le (by omega)] at hw
    subst hw
    repeat' (first | apply GO_seq | apply GO_region | apply GOl_nil | (apply GO_exit; exact rfl) | (apply GOl_mul; exact rfl; exact rfl; exact rfl; omega; exact rfl; exact rfl) | (apply GOl_pv; exact rfl; exact rfl; exact rfl) | (apply GOl_ov; exact rfl; exact rfl; (first | (apply OV_load; exact rfl; exact Lv_roF rfl h3 rfl)); exact (by repeat' (first | exact trivial | apply And.intro | exact List.Mem.head _ | apply List.Mem.tail))) | (apply GO_cond; exact rfl; all_goals intro hc; all_goals try simp only [ltI_t, ltI_f, leI_t, leI_f, eqI_t, eqI_f, Bool.not_eq_true', Bool.not_eq_false', decide_eq_true_eq, decide_eq_false_iff_not, reduceCtorEq] at hc; all_goals try (exfalso; omega)) | (apply GO_retV1; exact rfl; exact rfl; exact rfl))
    all_goals rfl
end Go.Hw
set_option linter.unusedVariables false
set_option linter.unusedSimpArgs false
set_option maxRecDepth 100000
set_option maxHeartbeats 8000000
namespace Go.Hw
open Go
attribute [local irreducible] GO GOl GDp Val Fn Res CellsAt ValE Blk OwnS MapA Yl
open Go.Proofs (Tryd.prog)

def CompactSaid : Prop := ∀ (e : TypeId) (v : Value) (xs : List Int) (n : Nat) (h : Ro), n ≤ 1000000000 → xs.length = n → Fn Tryd.prog 23 #[v] [OwnS e 1 v n (xs.flatMap encI)] h fun u Es _ => Es = [OwnS e 1 u (Lib.compact xs).length ((Lib.compact xs).flatMap encI)]


theorem clone_c (h : Ro) (A : Option Addr) (n c : Nat) (xs : List Int) (hx : SlOf encI 1 h A n xs) (hn : n ≤ 1000000000) :
    Fn Tryd.prog 21 #[.slice A n c] [] h fun u Es _ => Es = [OwnS 3 1 u n (xs.flatMap encI)] := by
  refine Fn_intro (args := [_]) ts_ok Go.Proofs.Tryd.func21 rfl rfl fun w0 X0 => ?_
  have hlen := hx.len
  cases A with
  | none =>
    have h0 : n = 0 := by
      by_cases h0 : n = 0
      · exact h0
      · have := hx.addrD (show 0 < n by omega); cases this
    subst h0
    have hxs : xs = [] := List.eq_nil_of_length_eq_zero hlen
    subst hxs
    refine GO_nilS 3 1 ?_
    repeat' (first | apply GO_seq | apply GO_skip | apply GO_region | apply GOl_nil | (apply GOl_pv; exact rfl; exact rfl; exact rfl) | (apply GO_cond; exact rfl; all_goals intro hc; all_goals try simp only [ltI_t, ltI_f, leI_t, leI_f, eqI_t, eqI_f, Bool.not_eq_true', Bool.not_eq_false', decide_eq_true_eq, decide_eq_false_iff_not, reduceCtorEq] at hc; all_goals try (exfalso; omega)))
    · exact GO_retS1 rfl rfl rfl (List.Sublist.refl _) rfl
    · simp at hc
  | some ad =>
    repeat' (first | apply GO_seq | apply GO_skip | apply GO_region | apply GOl_nil | (apply GOl_pv; exact rfl; exact rfl; exact rfl) | (apply GOl_to; exact rfl; exact rfl; exact rfl; (first | (apply OpTo_buildSliceO (n := 0); exact rfl; exact rfl; exact rfl; exact List.cons_ne_nil _ _; exact rfl; exact rfl; exact rfl; exact rfl; exact rfl; exact rfl; intro b1; skip) | (apply OpTo_appendS (enc := encI) (xs := []); exact rfl; exact rfl; exact rfl; exact rfl; exact rfl; exact rfl; exact rfl; exact hx; exact fun _ => rfl; exact fun _ => allOne_ok rfl; intro v1; exact (by (repeat (first | exact Repl.here | apply Repl.there)); done); omega; exact rfl; intro A1 c1; skip))) | (apply GO_cond; exact rfl; all_goals intro hc; all_goals try simp only [ltI_t, ltI_f, leI_t, leI_f, eqI_t, eqI_f, Bool.not_eq_true', Bool.not_eq_false', decide_eq_true_eq, decide_eq_false_iff_not, reduceCtorEq] at hc; all_goals try (exfalso; omega)))
    refine GO_retS1 rfl rfl rfl (List.Sublist.refl _) ?_
    simp
    rfl

theorem find_spec {l : List Per} {n : Int} {day : Int} (hk : ∃ p ∈ l, p.player = n ∧ ¬ day < p.born) (hl : l.Pairwise fun a b => a.player < b.player) : ∃ p, l.find? (fun p => decide (p.player = n)) = some p ∧ p ∈ l ∧ p.player = n ∧ ¬ day < p.born := by
  obtain ⟨p, hp, e, hb⟩ := hk
  cases hf : l.find? (fun p => decide (p.player = n)) with
  | none => exact absurd e (find_none hf p hp)
  | some q =>
    obtain ⟨h1, h2⟩ := find_some hf
    have := find_uniq hl h1 hp (by omega)
    subst this
    exact ⟨q, rfl, h1, h2, hb⟩


open Classical in
theorem may_c (hS : SortSaid) (hC : CompactSaid) (h : Ro) (hG : LenG h) (q : Quo) (A : Option Addr) (c : Nat) (hx : SlOf encV 2 h A q.wins.length q.wins) (hn : q.wins.length ≤ 1000000000) (s : Rsh) (r : Reg) (hr : RegAt h s r)
    (B : Option Addr) (n d : Nat) (l : List Per) (hl : SlOf encP 4 h B n l) (hl2 : n ≤ 1000000000) (D : Option Addr) (m e : Nat) (bans : List Ivl) (hb : SlOf encV 2 h D m bans) (hm : m ≤ 1000000000) (club player day : Int) :
    Val Tryd.prog 7 #[quoV q A c, regV r.league r.day s, .slice B n d, .slice D m e, .int .i64 club, .int .i64 player, .int .i64 day] h (.int .i64 (mayE q r l bans club player day)) := by
  refine Val_intro (args := [_, _, _, _, _, _, _]) ts_ok Go.Proofs.Tryd.func7 rfl rfl fun w0 X0 => ?_
  have hlen := hl.len
  have hlr := hr.ents.len
  have hcq := checkQ_c h q A c hx hn
  have hcr := check_c h s r hr
  have hp := arePersons_c h B n d l hl hl2
  have hcc := contains_c h s.ac s.nc s.cc r.clubs club hr.clubs hr.nc
  by_cases hQ : QuoOk q
  · rw [if_pos hQ] at hcq
    by_cases hg : RegGood r
    · rw [if_pos hg] at hcr
      by_cases hA : PersOk l ∧ l.length ≤ 8192 ∧ 0 ≤ day ∧ day ≤ 1048576 ∧ club ∈ r.clubs
      · obtain ⟨a1, a2, a3, a4, a5⟩ := hA
        rw [decide_eq_true a1] at hp
        rw [decide_eq_true a5] at hcc
        have hE : mayE q r l bans club player day = if ¬ AllKnown l (membersL r club player) day then 1
            else if ¬ inAny day q.wins = true then 371 else if inAny day bans = true then 372
            else if (regClub r player).2.2 = true then 361
            else if squadE q (ofNums l (membersL r club player)) (loanIn club (playersL r (firsts r.ents))) (loanOut club (playersL r (firsts r.ents))) day ≠ 0 then 370
            else if 3 * (wagesL (ofNums l (membersL r club player))).sum > q.cap then 373 else 0 := by
          unfold mayE; rw [if_neg (fun hh => hh hQ), if_neg (fun hh => hh hg), if_neg (fun hh => hh ⟨a1, a2, a3, a4, a5⟩)]
        rw [hE]
        clear hE
        have hel : r.ents.length ≤ 65536 := by
          rcases bookOf_len hg.2 with h0 | h0
          · rw [h0]; simp
          · simpa using h0
        have hsl := squadLlen r club
        have hml := members_len r club player
        have hmi := members_incr r club player
        have hme : membersL r club player = Lib.compact (sortI (squadL r club ++ [player])) := rfl
        have hsq : ∀ h', Le h h' → Res Tryd.prog 9 #[regV r.league r.day s, .int .i64 club] h' (fun v h'' => ∃ A c, v = .slice A (squadL r club).length c ∧ SlOf encI 1 h'' A (squadL r club).length (squadL r club)) := fun h' hl => regSquad_c hS h' s r (hr.le hl) club
        have hsi : (sortI (squadL r club ++ [player])).length = (squadL r club).length + 1 := by rw [sortI_len]; simp
        have hC2 : ∀ v h', Fn Tryd.prog 23 #[v] [OwnS 3 1 v ((squadL r club).length + 1) ((sortI (squadL r club ++ [player])).flatMap encI)] h' fun u Es _ => Es = [OwnS 3 1 u (membersL r club player).length ((membersL r club player).flatMap encI)] := fun v h' => hC _ v _ _ h' (by have := hr.ne; omega) hsi
        generalize hsqn : squadL r club = sq at *
        generalize membersL r club player = mem at *
        clear hme
        repeat' (first | apply GO_seq | apply GO_skip | apply GO_block | apply GO_region | apply GOl_nil | (apply GOl_pv; exact rfl; exact rfl; exact rfl) | (apply GOl_load; exact rfl; exact Ld_blk rfl (by (repeat (first | exact List.Mem.head _ | apply List.Mem.tail)); done) rfl; exact rfl; exact rfl) | (apply GOl_to; exact rfl; exact rfl; exact rfl; (first | (apply OpTo_box; exact rfl; intro b; skip) | (apply OpTo_val; exact rfl; exact has16; exact hcq; skip) | (apply OpTo_val; exact rfl; exact has17; exact hcr; skip) | (apply OpTo_val; exact rfl; exact has18; exact hp; skip) | (apply OpTo_val; exact rfl; exact has19; exact within_c _ _ _ _; skip) | (apply OpTo_val; exact rfl; exact has20; exact hcc; skip) | (apply OpTo_makeMap (fun i : Int => .int .i64 i) perV; intro bm; skip))) | (apply GO_cond; exact rfl; all_goals intro hc; all_goals try simp only [ltI_t, ltI_f, leI_t, leI_f, eqI_t, eqI_f, Bool.not_eq_true', Bool.not_eq_false', decide_eq_true_eq, decide_eq_false_iff_not, reduceCtorEq] at hc; all_goals try (exfalso; omega)) | (apply GOl_split; exact rfl; exact rfl; all_goals intro hc; all_goals try simp only [ltI_t, ltI_f, leI_t, leI_f, eqI_t, eqI_f, Bool.not_eq_true', Bool.not_eq_false', decide_eq_true_eq, decide_eq_false_iff_not, reduceCtorEq] at hc; all_goals try (exfalso; omega)))
        rename_i b7 b8 b10 b11 b12 x1 x2 x3 x4
        generalize b = b13
        refine GO_loopT (X := Nat) (fun k => k ≤ n) (fun k => n - k)
          (fun k => [(56, .int .i64 k), (55, .int .i64 n), (54, .slice B n d), (16, .map (some bm)), (7, .pointer (some ⟨b7, 0, none⟩)), (8, .pointer (some ⟨b8, 0, none⟩)), (10, .pointer (some ⟨b10, 0, none⟩)), (11, .pointer (some ⟨b11, 0, none⟩)), (12, .pointer (some ⟨b12, 0, none⟩)), (13, .pointer (some ⟨b13, 0, none⟩))])
          (fun k => [MapA (fun i : Int => .int .i64 i) perV bm (perL (l.take k)), Blk b7 24 (partL (quoV q A c)), Blk b8 28 (partL (regV r.league r.day s)), Blk b10 22 [.slice D m e], Blk b11 3 [.int .i64 club], Blk b12 3 [.int .i64 player], Blk b13 3 [.int .i64 day]]) (fun _ => h) 0 (by omega) (by (repeat (first | exact trivial | refine ⟨rfl, ?_⟩)); done) (by (repeat (first | exact Takes_nil | (apply Takes_cons; exact (by (repeat (first | exact Take.here | apply Take.there)); done)))); done) rfl ?_
        intro k hk ih
        by_cases hkn : k < n
        · have g1 := hl.addrD hkn
          have c1 := hl.cellsD p0 hkn
          have ht := take_snocQ p0 hlen hkn
          have hins : insA (l.getD k p0).player (l.getD k p0) (perL (l.take k)) = perL (l.take (k + 1)) := by
            rw [ht]; refine perL_ins fun z hz => ?_
            obtain ⟨i, hi, rfl⟩ := List.getElem_of_mem hz
            rw [List.length_take] at hi
            have := step_of_pair p0 (fun p => p.player) a1.2 (show k < l.length by omega) (show i < k by omega)
            simpa [List.getD, List.getElem?_eq_getElem (show i < l.length by omega)] using this
          generalize l.getD k p0 = x at *
          repeat' (first | apply GO_seq | apply GO_skip | apply GO_inBlock | apply GO_block | apply GO_region | apply GOl_nil | (apply GOl_add; exact rfl; exact rfl; exact rfl; omega; exact rfl; exact rfl) | (apply GOl_pv; exact rfl; exact rfl; exact rfl) | (apply GOl_load; exact rfl; exact Ld_blk rfl (by (repeat (first | exact List.Mem.head _ | apply List.Mem.tail)); done) rfl; exact rfl; exact rfl) | (apply GOl_ov; exact rfl; exact rfl; (first | (apply OV_idxS (j := k); exact rfl; exact rfl; exact rfl; exact rfl; exact rfl; exact g1; (with_reducible exact rfl); omega) | (apply OV_load; exact rfl; exact Lv_ro rfl c1 rfl)); exact (by repeat' (first | exact trivial | apply And.intro | exact List.Mem.head _ | apply List.Mem.tail))) | (apply GOl_to; exact rfl; exact rfl; exact rfl; (first | (apply OpTo_store; exact rfl; exact rfl; exact rfl; exact (by (repeat (first | exact Repl.here | apply Repl.there)); done); exact rfl; exact rfl; exact rfl; skip) | (apply OpTo_alloc; exact rfl; intro b; skip) | (apply OpTo_mapUpdate (ek := fun i : Int => .int .i64 i) (ev := perV) (b := bm) (m := perL (l.take k)) (u := x) K3; exact rfl; exact rfl; exact rfl; exact rfl; exact rfl; exact rfl; rw [hins]; exact (by (repeat (first | exact Repl.here | apply Repl.there)); done); skip))) | (apply GO_cond; exact rfl; all_goals intro hc; all_goals try simp only [ltI_t, ltI_f, leI_t, leI_f, eqI_t, eqI_f, Bool.not_eq_true', Bool.not_eq_false', decide_eq_true_eq, decide_eq_false_iff_not, reduceCtorEq] at hc; all_goals try (exfalso; omega)))
          have h3 := ih (k + 1) (by omega) (by omega)
          refine GO_fit (by (repeat (first | exact trivial | refine ⟨rfl, ?_⟩)); done) (by (repeat (first | exact Takes_nil | (apply Takes_cons; exact (by (repeat (first | exact Take.here | apply Take.there)); done)))); done) (h3)
        · rw [List.take_of_length_le (by omega)]
          clear ih
          repeat' (first | apply GO_seq | apply GO_block | apply GO_region | apply GOl_nil | (apply GO_exit; exact rfl) | (apply GOl_pv; exact rfl; exact rfl; exact rfl) | (apply GOl_to; exact rfl; exact rfl; exact rfl; (first | (apply OpTo_alloc; exact rfl; intro b; skip) | (apply OpTo_callP; exact rfl; exact has22; exact hS 3 _ (sq ++ [player]) (sq.length + 1) _ (by omega) (by simp); exact (by (repeat (first | exact Takes_nil | (apply Takes_cons; exact (by (repeat (first | exact Take.here | apply Take.there)); done)))); done); rintro u2 E2 h3 hle4 ⟨rfl, rfl⟩; skip) | (apply OpTo_relC (enc := encI) (sz := 1) (e := 3) (n := mem.length) (xs := mem) (fun _ => rfl) rfl; apply OpTo_callP; exact rfl; exact has23; exact hC2 _ _; exact (by (repeat (first | exact Takes_nil | (apply Takes_cons; exact (by (repeat (first | exact Take.here | apply Take.there)); done)))); done); rintro u3 E3 h4 hle5 rfl; refine ⟨_, rfl, fun Am cm h5 hle6 hcm hms => ?_⟩; skip))) | (apply GO_drawp (n := 14) [0, 1, 2, 3, 4, 5, 6, 7] [(0, 0), (1, 0), (4, 0), (2, 2), (8, 5), (3, 2), (3, 5), (5, 1), (6, 1), (7, 0), (3, 1), (6, 1), (7, 0), (2, 1), (3, 1), (6, 1), (7, 0)]; kernel_rfl) | (apply GP_pv; exact rfl; kernel_rfl; exact rfl; exact rfl; exact rfl) | (apply GP_loadB; exact rfl; kernel_rfl; exact rfl; exact rfl; exact rfl; exact (by (repeat (first | exact List.Mem.head _ | apply List.Mem.tail)); done); exact rfl; exact rfl) | (apply GP_real; exact rfl; kernel_rfl; exact rfl; exact rfl; exact rfl; (first | (apply OpTo_res; exact rfl; exact has9; exact hsq _ (by first | exact Le.refl _ | assumption | (repeat (first | assumption | (apply Le.trans; assumption)))); rintro v1 hs1 hle1 ⟨As, cs, rfl, hs⟩; refine ⟨hle1, by (first | exact NdOk_no rfl | (apply NdOk_all; (repeat' (first | exact trivial | apply And.intro | exact List.Mem.head _ | apply List.Mem.tail)); done) | (apply NdOk_need; (repeat' (first | exact trivial | apply And.intro | exact List.Mem.head _ | apply List.Mem.tail)); done)), ?_⟩) | (apply OpTo_callP; exact rfl; exact has21; exact clone_c _ _ _ _ _ (hs.le (by first | exact Le.refl _ | assumption | (repeat (first | assumption | (apply Le.trans; assumption))))) (by omega); exact (by (repeat (first | exact Takes_nil | (apply Takes_cons; exact (by (repeat (first | exact Take.here | apply Take.there)); done)))); done); rintro u1 E1 h1 hle2 rfl; refine ⟨hle2, by (first | exact NdOk_no rfl | (apply NdOk_all; (repeat' (first | exact trivial | apply And.intro | exact List.Mem.head _ | apply List.Mem.tail)); done) | (apply NdOk_need; (repeat' (first | exact trivial | apply And.intro | exact List.Mem.head _ | apply List.Mem.tail)); done)), ?_⟩) | (apply OpTo_buildSliceS (enc := encI) (n := 1) [player]; exact rfl; exact rfl; exact rfl; exact List.cons_ne_nil _ _; exact rfl; exact rfl; exact rfl; exact rfl; exact fun _ => rfl; exact rfl; exact rfl; intro bp h2 hle3 hs2; refine ⟨hle3, by (first | exact NdOk_no rfl | (apply NdOk_all; (repeat' (first | exact trivial | apply And.intro | exact List.Mem.head _ | apply List.Mem.tail)); done) | (apply NdOk_need; (repeat' (first | exact trivial | apply And.intro | exact List.Mem.head _ | apply List.Mem.tail)); done)), ?_⟩) | (apply OpTo_appendS (enc := encI) (xs := sq) (ys := [player]); exact rfl; exact rfl; exact rfl; exact rfl; exact rfl; exact rfl; exact rfl; exact hs2.le (by first | exact Le.refl _ | assumption | (repeat (first | assumption | (apply Le.trans; assumption)))); exact fun _ => rfl; exact fun _ => allOne_ok rfl; intro v1; exact (by (repeat (first | exact Repl.here | apply Repl.there)); done); omega; exact rfl; intro A1 c1; refine ⟨Le.refl _, by (first | exact NdOk_no rfl | (apply NdOk_all; (repeat' (first | exact trivial | apply And.intro | exact List.Mem.head _ | apply List.Mem.tail)); done) | (apply NdOk_need; (repeat' (first | exact trivial | apply And.intro | exact List.Mem.head _ | apply List.Mem.tail)); done)), ?_⟩))) | (apply GP_two; kernel_rfl; exact rfl; exact rfl) | (apply RealP_intro; exact rfl; exact rfl; exact rfl; exact rfl; (first | (apply OpTo_res; exact rfl; exact has9; exact hsq _ (by first | exact Le.refl _ | assumption | (repeat (first | assumption | (apply Le.trans; assumption)))); rintro v1 hs1 hle1 ⟨As, cs, rfl, hs⟩; refine ⟨hle1, by (first | exact NdOk_no rfl | (apply NdOk_all; (repeat' (first | exact trivial | apply And.intro | exact List.Mem.head _ | apply List.Mem.tail)); done) | (apply NdOk_need; (repeat' (first | exact trivial | apply And.intro | exact List.Mem.head _ | apply List.Mem.tail)); done)), ?_⟩) | (apply OpTo_callP; exact rfl; exact has21; exact clone_c _ _ _ _ _ (hs.le (by first | exact Le.refl _ | assumption | (repeat (first | assumption | (apply Le.trans; assumption))))) (by omega); exact (by (repeat (first | exact Takes_nil | (apply Takes_cons; exact (by (repeat (first | exact Take.here | apply Take.there)); done)))); done); rintro u1 E1 h1 hle2 rfl; refine ⟨hle2, by (first | exact NdOk_no rfl | (apply NdOk_all; (repeat' (first | exact trivial | apply And.intro | exact List.Mem.head _ | apply List.Mem.tail)); done) | (apply NdOk_need; (repeat' (first | exact trivial | apply And.intro | exact List.Mem.head _ | apply List.Mem.tail)); done)), ?_⟩) | (apply OpTo_buildSliceS (enc := encI) (n := 1) [player]; exact rfl; exact rfl; exact rfl; exact List.cons_ne_nil _ _; exact rfl; exact rfl; exact rfl; exact rfl; exact fun _ => rfl; exact rfl; exact rfl; intro bp h2 hle3 hs2; refine ⟨hle3, by (first | exact NdOk_no rfl | (apply NdOk_all; (repeat' (first | exact trivial | apply And.intro | exact List.Mem.head _ | apply List.Mem.tail)); done) | (apply NdOk_need; (repeat' (first | exact trivial | apply And.intro | exact List.Mem.head _ | apply List.Mem.tail)); done)), ?_⟩))) | (apply GP_done; kernel_rfl; exact rfl) | (apply GO_cond; exact rfl; all_goals intro hc; all_goals try simp only [ltI_t, ltI_f, leI_t, leI_f, eqI_t, eqI_f, Bool.not_eq_true', Bool.not_eq_false', decide_eq_true_eq, decide_eq_false_iff_not, reduceCtorEq] at hc; all_goals try (exfalso; omega)))
          all_goals
            have hle : Le h h5 := (by first | exact Le.refl _ | assumption | (repeat (first | assumption | (apply Le.trans; assumption))))
            refine GO_nilS 43 4 ?_
            refine GO_loopT (X := Nat × Option Addr × Nat × Ro) (fun x => x.1 ≤ mem.length ∧ Le h5 x.2.2.2 ∧ (ofNums l (mem.take x.1)).length = x.1 ∧ ∀ n ∈ mem.take x.1, ∃ p ∈ l, p.player = n ∧ ¬ day < p.born) (fun x => mem.length - x.1)
              (fun x => [(77, .int .i64 x.1), (76, .int .i64 mem.length), (75, .slice Am mem.length cm), (16, .map (some bm)), (20, .pointer (some ⟨b, 0, none⟩)), (7, .pointer (some ⟨b7, 0, none⟩)), (8, .pointer (some ⟨b8, 0, none⟩)), (10, .pointer (some ⟨b10, 0, none⟩)), (11, .pointer (some ⟨b11, 0, none⟩)), (12, .pointer (some ⟨b12, 0, none⟩)), (13, .pointer (some ⟨b13, 0, none⟩))])
              (fun x => [Blk b 29 [.slice x.2.1 x.1 x.2.2.1], OwnS 43 4 (.slice x.2.1 x.1 x.2.2.1) x.1 ((ofNums l (mem.take x.1)).flatMap encP), MapA (fun i : Int => .int .i64 i) perV bm (perL l), Blk b7 24 (partL (quoV q A c)), Blk b8 28 (partL (regV r.league r.day s)), Blk b10 22 [.slice D m e], Blk b11 3 [.int .i64 club], Blk b12 3 [.int .i64 player], Blk b13 3 [.int .i64 day]])
              (fun x => x.2.2.2) (0, none, 0, h5) ⟨by dsimp only; omega, Le.refl _, by simp [ofNums_nil], by simp⟩ (by (repeat (first | exact trivial | refine ⟨rfl, ?_⟩)); done) (by rw [List.take_zero, ofNums_nil]; exact (by (repeat (first | exact Takes_nil | (apply Takes_cons; exact (by (repeat (first | exact Take.here | apply Take.there)); done)))); done)) rfl ?_
            rintro ⟨k, As2, cs2, hh⟩ ⟨hk2, hleh, hlk, hkn2⟩ ih
            dsimp only at hk2 hleh hlk hkn2 ih ⊢
            by_cases hk3 : k < mem.length
            · have g1 := hms.addrD hk3
              have c1 := (hms.cellsD 0 hk3).le hleh
              have ht := take_snocQ 0 (rfl : mem.length = mem.length) hk3
              have hmm := getD_mem 0 hk3
              have hlt : ∀ z ∈ mem.take k, z < mem.getD k 0 := fun z hz => by
                obtain ⟨i, hi, rfl⟩ := List.getElem_of_mem hz
                rw [List.length_take] at hi
                have := List.pairwise_iff_getElem.1 hmi i k (by omega) hk3 (by omega)
                simpa [List.getD, List.getElem?_eq_getElem hk3] using this
              generalize mem.getD k 0 = z at *
              have hlook := perL_look (l := l) (n := z)
              by_cases hkz : ∃ p ∈ l, p.player = z ∧ ¬ day < p.born
              · obtain ⟨p, hp1, hp2, hp3, hp4⟩ := find_spec hkz a1.2
                rw [hp1] at hlook
                subst hp3
                have hof := ofNums_snoc a1.2 hp2 hlt
                rw [← ht] at hof
                repeat' (first | apply GO_seq | apply GO_skip | apply GO_inBlock | apply GO_block | apply GO_region | apply GOl_nil | (apply GOl_add; exact rfl; exact rfl; exact rfl; omega; exact rfl; exact rfl) | (apply GOl_pv; exact rfl; exact rfl; exact rfl) | (apply GOl_load; exact rfl; exact Ld_blk rfl (by (repeat (first | exact List.Mem.head _ | apply List.Mem.tail)); done) rfl; exact rfl; exact rfl) | (apply GOl_ov; exact rfl; exact rfl; (first | (apply OV_idxS (j := k); exact rfl; exact rfl; exact rfl; exact rfl; exact rfl; exact g1; (with_reducible exact rfl); omega) | (apply OV_load; exact rfl; exact Lv_ro rfl c1 rfl) | (apply OV_lookup (ek := fun i : Int => .int .i64 i) (ev := perV) (b := bm) (m := perL l) (r := some p) K3; exact rfl; exact rfl; exact rfl; exact rfl; exact rfl; exact hlook)); exact (by repeat' (first | exact trivial | apply And.intro | exact List.Mem.head _ | apply List.Mem.tail))) | (apply GOl_to; exact rfl; exact rfl; exact rfl; (first | (apply OpTo_store; exact rfl; exact rfl; exact rfl; exact (by (repeat (first | exact Repl.here | apply Repl.there)); done); exact rfl; exact rfl; exact rfl; skip) | (apply OpTo_alloc; exact rfl; intro b; skip) | (apply OpTo_buildSliceS (enc := encP) (n := 1) [p]; exact rfl; exact rfl; exact rfl; exact List.cons_ne_nil _ _; exact rfl; exact rfl; exact rfl; exact rfl; exact fun _ => rfl; exact rfl; exact rfl; intro bq h6 hle7 hs7; skip) | (apply OpTo_appendS (enc := encP) (xs := ofNums l (mem.take k)) (ys := [p]); exact rfl; exact rfl; exact rfl; exact rfl; exact rfl; exact rfl; exact rfl; exact hs7; exact fun _ => rfl; exact fun _ => allOne_ok rfl; intro v1; exact (by (repeat (first | exact Repl.here | apply Repl.there)); done); omega; exact rfl; intro A3 c3; skip))) | (apply GO_cond; exact rfl; all_goals intro hc; all_goals try simp only [ltI_t, ltI_f, leI_t, leI_f, eqI_t, eqI_f, Bool.not_eq_true', Bool.not_eq_false', decide_eq_true_eq, decide_eq_false_iff_not, reduceCtorEq] at hc; all_goals try (exfalso; omega)))
                have h3 := ih (k + 1, A3, c3, h6) ⟨by dsimp only; omega, hleh.trans hle7, by dsimp only; rw [hof, List.length_append, hlk]; rfl, by
                  dsimp only; rw [ht]; intro w hw
                  rw [List.mem_append, List.mem_singleton] at hw
                  rcases hw with hw | rfl
                  · exact hkn2 w hw
                  · exact ⟨p, hp2, rfl, hp4⟩⟩ (by dsimp only; omega)
                rw [hof] at h3
                rename_i b20
                refine GO_fit (by (repeat (first | exact trivial | refine ⟨rfl, ?_⟩)); done) (by (repeat (first | exact Takes_nil | (apply Takes_cons; exact (by (repeat (first | exact Take.here | apply Take.there)); done)))); done) (h3)
              · have hnk : ¬ AllKnown l mem day := fun hh => hkz (hh z hmm)
                rw [if_pos hnk]
                cases hf : l.find? (fun p => decide (p.player = z)) with
                | none =>
                  rw [hf] at hlook
                  repeat' (first | apply GO_seq | apply GO_skip | apply GO_block | apply GO_region | apply GOl_nil | (apply GOl_unwanted; exact rfl; exact rfl) | (apply GOl_pv; exact rfl; exact rfl; exact rfl) | (apply GOl_ov; exact rfl; exact rfl; (first | (apply OV_idxS (j := k); exact rfl; exact rfl; exact rfl; exact rfl; exact rfl; exact g1; (with_reducible exact rfl); omega) | (apply OV_load; exact rfl; exact Lv_ro rfl c1 rfl) | (apply OV_lookup (ek := fun i : Int => .int .i64 i) (ev := perV) (b := bm) (m := perL l) (r := none) K3; exact rfl; exact rfl; exact rfl; exact rfl; exact rfl; exact hlook)); exact (by repeat' (first | exact trivial | apply And.intro | exact List.Mem.head _ | apply List.Mem.tail))) | (apply GOl_to; exact rfl; exact rfl; exact rfl; (first | (apply OpTo_store; exact rfl; exact rfl; exact rfl; exact (by (repeat (first | exact Repl.here | apply Repl.there)); done); exact rfl; exact rfl; exact rfl; skip) | (apply OpTo_alloc; exact rfl; intro b; skip))) | (apply GO_cond; exact rfl; all_goals intro hc; all_goals try simp only [ltI_t, ltI_f, leI_t, leI_f, eqI_t, eqI_f, Bool.not_eq_true', Bool.not_eq_false', decide_eq_true_eq, decide_eq_false_iff_not, reduceCtorEq] at hc; all_goals try (exfalso; omega)) | (apply GO_retV1; exact rfl; exact rfl; exact rfl))
                  all_goals first | rfl
                | some p =>
                  obtain ⟨hp2, hp3⟩ := find_some hf
                  have hp4 : day < p.born := by
                    by_cases h4 : day < p.born
                    · exact h4
                    · exact absurd ⟨p, hp2, hp3, h4⟩ hkz
                  rw [hf] at hlook
                  repeat' (first | apply GO_seq | apply GO_skip | apply GO_block | apply GO_region | apply GOl_nil | (apply GOl_pv; exact rfl; exact rfl; exact rfl) | (apply GOl_load; exact rfl; exact Ld_blk rfl (by (repeat (first | exact List.Mem.head _ | apply List.Mem.tail)); done) rfl; exact rfl; exact rfl) | (apply GOl_ov; exact rfl; exact rfl; (first | (apply OV_idxS (j := k); exact rfl; exact rfl; exact rfl; exact rfl; exact rfl; exact g1; (with_reducible exact rfl); omega) | (apply OV_load; exact rfl; exact Lv_ro rfl c1 rfl) | (apply OV_lookup (ek := fun i : Int => .int .i64 i) (ev := perV) (b := bm) (m := perL l) (r := some p) K3; exact rfl; exact rfl; exact rfl; exact rfl; exact rfl; exact hlook)); exact (by repeat' (first | exact trivial | apply And.intro | exact List.Mem.head _ | apply List.Mem.tail))) | (apply GOl_to; exact rfl; exact rfl; exact rfl; (first | (apply OpTo_store; exact rfl; exact rfl; exact rfl; exact (by (repeat (first | exact Repl.here | apply Repl.there)); done); exact rfl; exact rfl; exact rfl; skip) | (apply OpTo_alloc; exact rfl; intro b; skip))) | (apply GO_cond; exact rfl; all_goals intro hc; all_goals try simp only [ltI_t, ltI_f, leI_t, leI_f, eqI_t, eqI_f, Bool.not_eq_true', Bool.not_eq_false', decide_eq_true_eq, decide_eq_false_iff_not, reduceCtorEq] at hc; all_goals try (exfalso; omega)) | (apply GO_retV1; exact rfl; exact rfl; exact rfl))
                  all_goals first | rfl | (exfalso; omega)
            · have hkm : k = mem.length := by omega
              rw [hkm, List.take_length] at hlk hkn2
              rw [hkm, List.take_length]
              have hak : AllKnown l mem day := hkn2
              rw [if_neg (fun hh => hh hak)]
              have hok : ∀ p ∈ ofNums l mem, PerOk p := fun p hp => a1.1 p (List.mem_filter.1 hp).1
              have hll : (ofNums l mem).length ≤ l.length := List.length_filter_le _ _
              have hne := hr.ne
              clear ih hsq hC2
              refine GO_relS (enc := encP) (sz := 4) (n := mem.length) (xs := ofNums l mem) (fun _ => rfl) hlk (by (repeat (first | exact Take.here | apply Take.there)); done) ?_
              intro A6 c6 h6 hle6 e6 hs6
              injection e6 with e61 _ e63
              subst e61; subst e63
              refine GO_relB (b := b7) (by (repeat (first | exact Take.here | apply Take.there)); done) ?_
              intro h7 hle7 g7
              refine GO_relB (b := b8) (by (repeat (first | exact Take.here | apply Take.there)); done) ?_
              intro h8 hle8 g8
              refine GO_relB (b := b10) (by (repeat (first | exact Take.here | apply Take.there)); done) ?_
              intro h10 hle10 g10
              refine GO_relB (b := b11) (by (repeat (first | exact Take.here | apply Take.there)); done) ?_
              intro h11 hle11 g11
              refine GO_relB (b := b12) (by (repeat (first | exact Take.here | apply Take.there)); done) ?_
              intro h12 hle12 g12
              refine GO_relB (b := b13) (by (repeat (first | exact Take.here | apply Take.there)); done) ?_
              intro h13 hle13 g13
              refine GO_relB (b := b) (by (repeat (first | exact Take.here | apply Take.there)); done) ?_
              intro h20 hle20 g20
              have k13 := hle13.trans hle20
              have k12 := hle12.trans k13
              have k11 := hle11.trans k12
              have k10 := hle10.trans k11
              have k8 := hle8.trans k10
              have k7 := hle7.trans k8
              have k6 := hle6.trans k7
              have k0 := (hle.trans hleh).trans k6
              replace g7 := g7.le k8
              replace g8 := g8.le k10
              replace g10 := g10.le k11
              replace g11 := g11.le k12
              replace g12 := g12.le k13
              replace g13 := g13.le hle20
              replace hs6 := hs6.le k7
              replace hx := hx.le k0
              replace hr := hr.le k0
              replace hb := hb.le k0
              replace hG := hG.le k0
              have f1 := fun h' (hl' : Le h20 h') => may1_c h' b13 b7 day q A c (g13.le hl') (g7.le hl') (hx.le hl') hn
              have f2 := fun h' (hl' : Le h20 h') => may2_c h' b13 b10 day D m e bans (g13.le hl') (g10.le hl') (hb.le hl') hm
              have f3 := fun h' (hl' : Le h20 h') => may3_c h' b8 b12 s r player (g8.le hl') (g12.le hl') (hr.le hl')
              have f4 := fun h' (hl' : Le h20 h') => may4_c h' (hG.le hl') b8 b11 b7 b b13 s r club day q A c _ _ _ (ofNums l mem) (g8.le hl') (g11.le hl') (g7.le hl') (g20.le hl') (g13.le hl') (hr.le hl') (hx.le hl') hn (hs6.le hl') (by omega)
              have f5 := fun h' (hl' : Le h20 h') => may5_c h' b b7 q A c _ _ _ (ofNums l mem) (g20.le hl') (g7.le hl') (hs6.le hl') (by omega) hok
              clear hcq hcr hp hcc hS hC hl hms g7 g8 g10 g11 g12 g13 g20 hs6 hx hr hb hG hle6 hle7 hle8 hle10 hle11 hle12 hle13 k6 k7 k8 k10 k11 k12 k13 k0
              generalize squadE q (ofNums l mem) (loanIn club (playersL r (firsts r.ents))) (loanOut club (playersL r (firsts r.ents))) day = sE at *
              generalize (regClub r player).2.2 = rC at *
              generalize inAny day q.wins = i1 at *
              generalize inAny day bans = i2 at *
              generalize 3 * (wagesL (ofNums l mem)).sum = wS at *
              have hf : ∀ h', Le h20 h' → ∀ x ∈ [(⟨371, 25, [.pointer (some ⟨b13, 0, none⟩), .pointer (some ⟨b7, 0, none⟩)]⟩ : Rsn), ⟨372, 27, [.pointer (some ⟨b13, 0, none⟩), .pointer (some ⟨b10, 0, none⟩)]⟩, ⟨361, 28, [.pointer (some ⟨b8, 0, none⟩), .pointer (some ⟨b12, 0, none⟩)]⟩,
                  ⟨370, 30, [.pointer (some ⟨b8, 0, none⟩), .pointer (some ⟨b11, 0, none⟩), .pointer (some ⟨b7, 0, none⟩), .pointer (some ⟨b, 0, none⟩), .pointer (some ⟨b13, 0, none⟩)]⟩, ⟨373, 32, [.pointer (some ⟨b, 0, none⟩), .pointer (some ⟨b7, 0, none⟩)]⟩],
                  Has Tryd.prog x.f ∧ Val Tryd.prog x.f ([] ++ [] ++ x.cs).toArray h' (.bool (if x.e = 371 then !i1 else if x.e = 372 then i2 else if x.e = 361 then rC else if x.e = 370 then !eqI sE 0 else ltI q.cap wS)) := by
                intro h' hl' x hx'
                simp only [List.mem_cons, List.not_mem_nil, or_false] at hx'
                rcases hx' with rfl | rfl | rfl | rfl | rfl
                · exact ⟨has25, f1 h' hl'⟩
                · exact ⟨has27, f2 h' hl'⟩
                · exact ⟨has28, f3 h' hl'⟩
                · exact ⟨has30, f4 h' hl'⟩
                · exact ⟨has32, f5 h' hl'⟩
              repeat' (first | apply GO_seq | apply GO_region | apply GOl_nil | (apply GO_exit; exact rfl) | (apply GOl_pv; exact rfl; exact rfl; exact rfl) | (apply GOl_to; exact rfl; exact rfl; exact rfl; (first | (apply OpTo_buildSliceS (enc := encRs) (n := 5) [⟨371, 25, [.pointer (some ⟨b13, 0, none⟩), .pointer (some ⟨b7, 0, none⟩)]⟩, ⟨372, 27, [.pointer (some ⟨b13, 0, none⟩), .pointer (some ⟨b10, 0, none⟩)]⟩, ⟨361, 28, [.pointer (some ⟨b8, 0, none⟩), .pointer (some ⟨b12, 0, none⟩)]⟩, ⟨370, 30, [.pointer (some ⟨b8, 0, none⟩), .pointer (some ⟨b11, 0, none⟩), .pointer (some ⟨b7, 0, none⟩), .pointer (some ⟨b, 0, none⟩), .pointer (some ⟨b13, 0, none⟩)]⟩, ⟨373, 32, [.pointer (some ⟨b, 0, none⟩), .pointer (some ⟨b7, 0, none⟩)]⟩]; exact rfl; exact rfl; exact rfl; exact List.cons_ne_nil _ _; exact rfl; exact rfl; exact rfl; exact rfl; exact fun _ => rfl; exact rfl; exact rfl; intro bq h21 hle21 hs21; skip) | (apply OpTo_val; exact rfl; exact has24; exact firstRs_c _ _ _ _ _ hs21 (by omega) _ (hf _ hle21); skip))) | (apply GO_cond; exact rfl; all_goals intro hc; all_goals try simp only [ltI_t, ltI_f, leI_t, leI_f, eqI_t, eqI_f, Bool.not_eq_true', Bool.not_eq_false', decide_eq_true_eq, decide_eq_false_iff_not, reduceCtorEq] at hc; all_goals try (exfalso; omega)) | (apply GO_retV1; exact rfl; exact rfl; exact rfl))
              simp only [firstE, eqI_eq, ltI_eq]
              by_cases e1 : i1 = true <;> by_cases e2 : i2 = true <;> by_cases e3 : rC = true <;> by_cases e4 : sE = 0 <;> by_cases e5 : q.cap < wS <;> simp [e1, e2, e3, e4, e5]
      · have hE : mayE q r l bans club player day = 1 := by
          unfold mayE; rw [if_neg (fun hh => hh hQ), if_neg (fun hh => hh hg), if_pos hA]
        rw [hE]
        generalize hP : decide (PersOk l) = P at hp
        generalize hC2 : decide (club ∈ r.clubs) = C2 at hcc
        repeat' (first | apply GO_seq | apply GO_skip | apply GO_region | apply GOl_nil | (apply GOl_unwanted; exact rfl; exact rfl) | (apply GOl_pv; exact rfl; exact rfl; exact rfl) | (apply GOl_load; exact rfl; exact Ld_blk rfl (by (repeat (first | exact List.Mem.head _ | apply List.Mem.tail)); done) rfl; exact rfl; exact rfl) | (apply GOl_to; exact rfl; exact rfl; exact rfl; (first | (apply OpTo_box; exact rfl; intro b; skip) | (apply OpTo_val; exact rfl; exact has16; exact hcq; skip) | (apply OpTo_val; exact rfl; exact has17; exact hcr; skip) | (apply OpTo_val; exact rfl; exact has18; exact hp; skip) | (apply OpTo_val; exact rfl; exact has19; exact within_c _ _ _ _; skip) | (apply OpTo_val; exact rfl; exact has20; exact hcc; skip))) | (apply GO_cond; exact rfl; all_goals intro hc; all_goals try simp only [ltI_t, ltI_f, leI_t, leI_f, eqI_t, eqI_f, Bool.not_eq_true', Bool.not_eq_false', decide_eq_true_eq, decide_eq_false_iff_not, reduceCtorEq] at hc; all_goals try (exfalso; omega)) | (apply GOl_split; exact rfl; exact rfl; all_goals intro hc; all_goals try simp only [ltI_t, ltI_f, leI_t, leI_f, eqI_t, eqI_f, Bool.not_eq_true', Bool.not_eq_false', decide_eq_true_eq, decide_eq_false_iff_not, reduceCtorEq] at hc; all_goals try (exfalso; omega)) | (apply GO_retV1; exact rfl; exact rfl; exact rfl))
        all_goals first | rfl | (exfalso; apply hA; exact ⟨of_decide_eq_true (hP.trans (by assumption)), by omega, by omega, by omega, of_decide_eq_true (hC2.trans (by assumption))⟩)
    · rw [if_neg hg] at hcr
      have hE : mayE q r l bans club player day = 360 := by
        unfold mayE; rw [if_neg (fun hh => hh hQ), if_pos hg]
      rw [hE]
      repeat' (first | apply GO_seq | apply GO_skip | apply GO_region | apply GOl_nil | (apply GOl_pv; exact rfl; exact rfl; exact rfl) | (apply GOl_load; exact rfl; exact Ld_blk rfl (by (repeat (first | exact List.Mem.head _ | apply List.Mem.tail)); done) rfl; exact rfl; exact rfl) | (apply GOl_to; exact rfl; exact rfl; exact rfl; (first | (apply OpTo_box; exact rfl; intro b; skip) | (apply OpTo_val; exact rfl; exact has16; exact hcq; skip) | (apply OpTo_val; exact rfl; exact has17; exact hcr; skip))) | (apply GO_cond; exact rfl; all_goals intro hc; all_goals try simp only [ltI_t, ltI_f, leI_t, leI_f, eqI_t, eqI_f, Bool.not_eq_true', Bool.not_eq_false', decide_eq_true_eq, decide_eq_false_iff_not, reduceCtorEq] at hc; all_goals try (exfalso; omega)) | (apply GO_retV1; exact rfl; exact rfl; exact rfl))
      all_goals first | rfl
  · rw [if_neg hQ] at hcq
    have hE : mayE q r l bans club player day = 370 := by
      unfold mayE; rw [if_pos hQ]
    rw [hE]
    repeat' (first | apply GO_seq | apply GO_region | apply GOl_nil | (apply GOl_pv; exact rfl; exact rfl; exact rfl) | (apply GOl_load; exact rfl; exact Ld_blk rfl (by (repeat (first | exact List.Mem.head _ | apply List.Mem.tail)); done) rfl; exact rfl; exact rfl) | (apply GOl_to; exact rfl; exact rfl; exact rfl; (first | (apply OpTo_box; exact rfl; intro b; skip) | (apply OpTo_val; exact rfl; exact has16; exact hcq; skip))) | (apply GO_cond; exact rfl; all_goals intro hc; all_goals try simp only [ltI_t, ltI_f, leI_t, leI_f, eqI_t, eqI_f, Bool.not_eq_true', Bool.not_eq_false', decide_eq_true_eq, decide_eq_false_iff_not, reduceCtorEq] at hc; all_goals try (exfalso; omega)) | (apply GO_retV1; exact rfl; exact rfl; exact rfl))
    all_goals first | rfl
end Go.Hw
set_option linter.unusedVariables false
set_option linter.unusedSimpArgs false
set_option maxRecDepth 100000
set_option maxHeartbeats 8000000
namespace Go.Hw
open Go
attribute [local irreducible] GO GOl GDp Val Fn Res CellsAt ValE Blk OwnS MapA Yl
open Go.Proofs (Tryd.prog)

def q37 : Quo := ⟨2, 1, 1, 0, 0, 10, [⟨9000, 9100⟩]⟩
def q00 : Quo := ⟨0, 0, 0, 0, 0, 0, []⟩
def pA : Per := ⟨1, 135, false, 0⟩
def one37 : Per := ⟨1, 0, false, 0⟩
def two37 : Per := ⟨2, 0, false, 0⟩
def r37 : Reg := ⟨2, [3, 5], 0, []⟩
theorem a499 : ageR pA 499 = .tuple #[.int .i64 0, .int .i64 0] := by
  have h1 : AgeOk pA 499 := by decide
  have h2 : ageOf pA.born 499 = 0 := by decide +kernel
  unfold ageR; rw [if_pos h1, h2]
theorem a500 : ageR pA 500 = .tuple #[.int .i64 1, .int .i64 0] := by
  have h1 : AgeOk pA 500 := by decide
  have h2 : ageOf pA.born 500 = 1 := by decide +kernel
  unfold ageR; rw [if_pos h1, h2]
theorem a134 : ageR pA 134 = .tuple #[.int .i64 0, .int .i64 1] := by
  have h1 : ¬ AgeOk pA 134 := by decide
  unfold ageR; rw [if_neg h1]
theorem ok37 : QuoOk q37 := by decide
theorem bad00 : ¬ QuoOk q00 := by decide
theorem cap37 : capR q37 [1, 2, 3, 4] = .tuple #[.int .i64 9, .bool true, .int .i64 0] := by
  have h1 : MoneyOk [1, 2, 3, 4] := by decide
  have h2 : (last3 [1, 2, 3, 4]).sum = 9 := by decide
  unfold capR; rw [if_neg (fun hh => hh ok37), if_neg (fun hh => hh h1), h2]; simp [leI_eq, q37]
theorem sq37a : squadE q37 [one37, two37] 0 0 9000 = 370 := by decide +kernel
theorem sq37b : squadE q37 [one37] 0 0 9000 = 0 := by decide +kernel
theorem open37 : OpenOk 2 [3, 5] := by
  refine ⟨by decide, by decide, ⟨?_, by decide, by decide⟩⟩
  intro i hi
  have : i = 0 ∨ i = 1 := by simp at hi; omega
  rcases this with rfl | rfl <;> simp
theorem good37 : RegGood r37 := ⟨open37, rfl⟩
theorem squad37 (c : Int) : squadL r37 c = [] := rfl
theorem club37 (p : Int) : regClub r37 p = (0, 0, false) := by
  unfold regClub; rw [if_neg]; rintro ⟨_, h⟩; exact h rfl
theorem mem37 : membersL r37 3 1 = [1] := by
  unfold membersL; rw [squad37]
  have h1 : sortI ([] ++ [1]) = [1] := by simp [sortI]
  rw [h1]; decide
theorem may37 (day : Int) (h0 : 0 ≤ day ∧ day ≤ 1048576) : mayE q37 r37 [one37] [] 3 1 day = if ¬ inAny day q37.wins = true then 371 else if squadE q37 [one37] 0 0 day ≠ 0 then 370 else 0 := by
  have hp : PersOk [one37] := by decide
  have ho : ofNums [one37] [1] = [one37] := by decide
  have hpl : playersL r37 (firsts r37.ents) = [] := rfl
  have hk : AllKnown [one37] [1] day := by
    intro n hn; simp only [List.mem_singleton] at hn; subst hn
    exact ⟨one37, by simp, rfl, by simp [one37]; omega⟩
  unfold mayE
  rw [if_neg (fun hh => hh ok37), if_neg (fun hh => hh good37), if_neg (fun hh => hh ⟨hp, by decide, h0.1, h0.2, by decide⟩), mem37, if_neg (fun hh => hh hk), ho, hpl, club37]
  have hi : inAny day [] = false := rfl
  rw [hi]
  have e1 : loanIn 3 [] = 0 := rfl
  have e2 : loanOut 3 [] = 0 := rfl
  rw [e1, e2]
  have e3 : ¬ 3 * (wagesL [one37]).sum > q37.cap := by decide
  simp [e3]
theorem may37a : mayE q37 r37 [one37] [] 3 1 9000 = 0 := by
  rw [may37 9000 (by omega), sq37b]; decide
theorem may37b : mayE q37 r37 [one37] [] 3 1 8000 = 371 := by
  rw [may37 8000 (by omega), if_pos (by decide)]


theorem quotas_c (h : Ro) : Res Tryd.prog 14 #[] h (fun u h' => ∃ A c, u = quoV q37 A c ∧ SlOf encV 2 h' A 1 [⟨9000, 9100⟩]) := by
  refine Res_intro (args := []) ts_ok Go.Proofs.Tryd.func14 rfl rfl fun w0 X0 => ?_
  repeat' (first | apply GO_seq | apply GO_region | apply GOl_nil | (apply GOl_pv; exact rfl; exact rfl; exact rfl) | (apply GOl_to; exact rfl; exact rfl; exact rfl; (first | (apply OpTo_store; exact rfl; exact rfl; exact rfl; exact (by (repeat (first | exact Repl.here | apply Repl.there)); done); exact rfl; exact rfl; exact rfl; skip) | (apply OpTo_alloc; exact rfl; intro b; skip) | (apply OpTo_buildSliceS (enc := encV) (n := 1) [⟨9000, 9100⟩]; exact rfl; exact rfl; exact rfl; exact List.cons_ne_nil _ _; exact rfl; exact rfl; exact rfl; exact rfl; exact fun _ => rfl; exact rfl; exact rfl; intro b1 h1 hle1 hs1; skip))))
  (first | (apply GO_retRC1; exact rfl; exact rfl; exact rfl; exact (by (repeat (first | exact List.Mem.head _ | apply List.Mem.tail)); done); exact rfl; exact rfl))
  exact ⟨_, _, rfl, hs1⟩

theorem ageAt {p : Per} {d : Int} {v : Value} (e : ageR p d = v) (h : Ro) (hG : LenG h) : Val Tryd.prog 12 #[perV p, .int .i64 d] h v := e ▸ age_c h hG p d
theorem capAt (h : Ro) (A B : Option Addr) (c d : Nat) (hx : SlOf encV 2 h A 1 [⟨9000, 9100⟩]) (hl : SlOf encI 1 h B 4 [1, 2, 3, 4]) (hd : 4 ≤ d) : Val Tryd.prog 13 #[quoV q37 A c, .slice B 4 d] h (.tuple #[.int .i64 9, .bool true, .int .i64 0]) := cap37 ▸ cap_c h q37 A c hx (by decide) B 4 d _ hl (by decide) hd
theorem squadAta (h : Ro) (hG : LenG h) (A B : Option Addr) (c d : Nat) (hx : SlOf encV 2 h A 1 [⟨9000, 9100⟩]) (hl : SlOf encP 4 h B 2 [one37, two37]) : Val Tryd.prog 11 #[quoV q37 A c, .slice B 2 d, .int .i64 0, .int .i64 0, .int .i64 9000] h (.int .i64 370) := sq37a ▸ squad_c h hG q37 A c hx (by decide) B 2 d _ hl (by decide) 0 0 9000
theorem squadAtb (h : Ro) (hG : LenG h) (A B : Option Addr) (c d : Nat) (hx : SlOf encV 2 h A 1 [⟨9000, 9100⟩]) (hl : SlOf encP 4 h B 1 [one37]) : Val Tryd.prog 11 #[quoV q37 A c, .slice B 1 d, .int .i64 0, .int .i64 0, .int .i64 9000] h (.int .i64 0) := sq37b ▸ squad_c h hG q37 A c hx (by decide) B 1 d _ hl (by decide) 0 0 9000
theorem checkAt00 (h : Ro) : Val Tryd.prog 16 #[quoV q00 none 0] h (.int .i64 370) := by
  have := checkQ_c h q00 none 0 SlOf.nil (by decide)
  rwa [if_neg bad00] at this
theorem mayAt (hS : SortSaid) (hC : CompactSaid) {day e : Int} (he : mayE q37 r37 [one37] [] 3 1 day = e) (h : Ro) (hG : LenG h) (A B : Option Addr) (c d : Nat) (hx : SlOf encV 2 h A 1 [⟨9000, 9100⟩]) (hl : SlOf encP 4 h B 1 [one37]) (R : Option Addr) (cr : Nat) (hr : SlOf encI 1 h R 2 [3, 5]) :
    Val Tryd.prog 7 #[quoV q37 A c, regV 2 0 ⟨R, 2, cr, none, 0, 0⟩, .slice B 1 d, .slice none 0 0, .int .i64 3, .int .i64 1, .int .i64 day] h (.int .i64 e) :=
  he ▸ may_c hS hC h hG q37 A c hx (by decide) ⟨R, 2, cr, none, 0, 0⟩ r37 ⟨hr, SlOf.nil, by simp, by simp⟩ B 1 d _ hl (by decide) none 0 0 [] SlOf.nil (by decide) 3 1 day
theorem new37 (h : Ro) (A : Option Addr) (c : Nat) (hs : SlOf encI 1 h A 2 [3, 5]) : Val Tryd.prog 15 #[.int .i64 2, .slice A 2 c] h (.tuple #[regV 2 0 ⟨A, 2, c, none, 0, 0⟩, .int .i64 0]) := by
  have := new_c h 2 A 2 c _ hs (by decide); rwa [if_pos open37] at this


theorem sane37_c (hS : SortSaid) (hC : CompactSaid) (h : Ro) (hG : LenG h) : Val Tryd.prog 4 #[] h (.bool true) := by
  refine Val_intro (args := []) ts_ok Go.Proofs.Tryd.func4 rfl rfl fun w0 X0 => ?_
  repeat' (first | apply GO_seq | apply GO_region | apply GOl_nil | (apply GOl_pv; exact rfl; exact rfl; exact rfl) | (apply GOl_load; exact rfl; exact Ld_blk rfl (by (repeat (first | exact List.Mem.head _ | apply List.Mem.tail)); done) rfl; exact rfl; exact rfl) | (apply GOl_to; exact rfl; exact rfl; exact rfl; (first | (apply OpTo_store; exact rfl; exact rfl; exact rfl; exact (by (repeat (first | exact Repl.here | apply Repl.there)); done); exact rfl; exact rfl; exact rfl; skip) | (apply OpTo_alloc; exact rfl; intro b; skip) | (apply OpTo_buildSliceS (enc := encI) (n := 4) [_, _, _, _]; exact rfl; exact rfl; exact rfl; exact List.cons_ne_nil _ _; exact rfl; exact rfl; exact rfl; exact rfl; exact fun _ => rfl; exact rfl; exact rfl; intro b1 h1 hle1 hs4; skip) | (apply OpTo_buildSliceS (enc := encI) (n := 2) [_, _]; exact rfl; exact rfl; exact rfl; exact List.cons_ne_nil _ _; exact rfl; exact rfl; exact rfl; exact rfl; exact fun _ => rfl; exact rfl; exact rfl; intro b1 h1 hle1 hs2; skip) | (apply OpTo_res; exact rfl; exact has14; exact quotas_c _; rintro vr hr1 hle1 ⟨Aq, cq, rfl, hq⟩; skip) | (apply OpTo_val; exact rfl; exact has12; exact ageAt a499 _ (hG.le (by first | exact Le.refl _ | assumption | (repeat (first | assumption | (apply Le.trans; assumption))))); skip) | (apply OpTo_val; exact rfl; exact has12; exact ageAt a500 _ (hG.le (by first | exact Le.refl _ | assumption | (repeat (first | assumption | (apply Le.trans; assumption))))); skip) | (apply OpTo_val; exact rfl; exact has12; exact ageAt a134 _ (hG.le (by first | exact Le.refl _ | assumption | (repeat (first | assumption | (apply Le.trans; assumption))))); skip) | (apply OpTo_val; exact rfl; exact has13; exact capAt _ _ _ _ _ (SlOf.le hq (by first | exact Le.refl _ | assumption | (repeat (first | assumption | (apply Le.trans; assumption))))) hs4 (by decide); skip) | (apply OpTo_val; exact rfl; exact has15; exact new37 _ _ _ hs2; skip))) | (apply GO_drawp (n := 9) [0, 1, 2, 3, 4, 5, 6, 7, 8, 9, 10, 11, 12, 13, 14, 15, 16] [(0, 0), (1, 0), (3, 0), (4, 0), (2, 2), (18, 5), (5, 1), (6, 1), (7, 0), (8, 0), (9, 0), (11, 0), (10, 2), (5, 12), (12, 1), (13, 1), (14, 0), (15, 0), (16, 0), (10, 1), (13, 1), (14, 0), (15, 0), (16, 0), (2, 1), (6, 1), (7, 0), (8, 0), (9, 0), (11, 0), (10, 2), (5, 12), (12, 1), (13, 1), (14, 0), (15, 0), (16, 0), (10, 1), (13, 1), (14, 0), (15, 0), (16, 0)]; kernel_rfl) | (apply GO_drawp (n := 10) [0, 1, 2, 3, 4, 5, 6, 7, 8, 9, 10, 11, 12, 13, 14, 15, 16, 17, 18, 19, 20, 21, 22] [(0, 0), (1, 0), (2, 0), (3, 1), (4, 0), (5, 0), (6, 0), (8, 0), (9, 0), (7, 2), (19, 10), (10, 1), (11, 1), (12, 0), (13, 0), (14, 0), (16, 0), (17, 0), (15, 2), (5, 18), (18, 1), (19, 1), (20, 0), (21, 0), (22, 0), (15, 1), (19, 1), (20, 0), (21, 0), (22, 0), (7, 1), (11, 1), (12, 0), (13, 0), (14, 0), (16, 0), (17, 0), (15, 2), (5, 18), (18, 1), (19, 1), (20, 0), (21, 0), (22, 0), (15, 1), (19, 1), (20, 0), (21, 0), (22, 0)]; kernel_rfl) | (apply GP_pv; exact rfl; kernel_rfl; exact rfl; exact rfl; exact rfl) | (apply GP_loadB; exact rfl; kernel_rfl; exact rfl; exact rfl; exact rfl; exact (by (repeat (first | exact List.Mem.head _ | apply List.Mem.tail)); done); exact rfl; exact rfl) | (apply GP_real; exact rfl; kernel_rfl; exact rfl; exact rfl; exact rfl; (first | (apply OpTo_buildSliceS (enc := encP) (n := 2) [one37, two37]; exact rfl; exact rfl; exact rfl; exact List.cons_ne_nil _ _; exact rfl; exact rfl; exact rfl; exact rfl; exact fun _ => rfl; exact rfl; exact rfl; intro b1 h1 hle1 hp2; refine ⟨hle1, by (first | exact NdOk_no rfl | (apply NdOk_all; (repeat' (first | exact trivial | apply And.intro | exact List.Mem.head _ | apply List.Mem.tail)); done) | (apply NdOk_need; (repeat' (first | exact trivial | apply And.intro | exact List.Mem.head _ | apply List.Mem.tail)); done)), ?_⟩) | (apply OpTo_buildSliceS (enc := encP) (n := 1) [one37]; exact rfl; exact rfl; exact rfl; exact List.cons_ne_nil _ _; exact rfl; exact rfl; exact rfl; exact rfl; exact fun _ => rfl; exact rfl; exact rfl; intro b1 h1 hle1 hp1; refine ⟨hle1, by (first | exact NdOk_no rfl | (apply NdOk_all; (repeat' (first | exact trivial | apply And.intro | exact List.Mem.head _ | apply List.Mem.tail)); done) | (apply NdOk_need; (repeat' (first | exact trivial | apply And.intro | exact List.Mem.head _ | apply List.Mem.tail)); done)), ?_⟩) | (apply OpTo_res; exact rfl; exact has14; exact quotas_c _; rintro vr hr1 hle1 ⟨Aq, cq, rfl, hq⟩; refine ⟨hle1, by (first | exact NdOk_no rfl | (apply NdOk_all; (repeat' (first | exact trivial | apply And.intro | exact List.Mem.head _ | apply List.Mem.tail)); done) | (apply NdOk_need; (repeat' (first | exact trivial | apply And.intro | exact List.Mem.head _ | apply List.Mem.tail)); done)), ?_⟩) | (apply OpTo_val; exact rfl; exact has11; exact squadAta _ (hG.le (by first | exact Le.refl _ | assumption | (repeat (first | assumption | (apply Le.trans; assumption))))) _ _ _ _ (SlOf.le hq (by first | exact Le.refl _ | assumption | (repeat (first | assumption | (apply Le.trans; assumption))))) (SlOf.le hp2 (by first | exact Le.refl _ | assumption | (repeat (first | assumption | (apply Le.trans; assumption))))); refine ⟨Le.refl _, by (first | exact NdOk_no rfl | (apply NdOk_all; (repeat' (first | exact trivial | apply And.intro | exact List.Mem.head _ | apply List.Mem.tail)); done) | (apply NdOk_need; (repeat' (first | exact trivial | apply And.intro | exact List.Mem.head _ | apply List.Mem.tail)); done)), ?_⟩) | (apply OpTo_val; exact rfl; exact has11; exact squadAtb _ (hG.le (by first | exact Le.refl _ | assumption | (repeat (first | assumption | (apply Le.trans; assumption))))) _ _ _ _ (SlOf.le hq (by first | exact Le.refl _ | assumption | (repeat (first | assumption | (apply Le.trans; assumption))))) (SlOf.le hp1 (by first | exact Le.refl _ | assumption | (repeat (first | assumption | (apply Le.trans; assumption))))); refine ⟨Le.refl _, by (first | exact NdOk_no rfl | (apply NdOk_all; (repeat' (first | exact trivial | apply And.intro | exact List.Mem.head _ | apply List.Mem.tail)); done) | (apply NdOk_need; (repeat' (first | exact trivial | apply And.intro | exact List.Mem.head _ | apply List.Mem.tail)); done)), ?_⟩) | (apply OpTo_val; exact rfl; exact has16; exact checkAt00 _; refine ⟨Le.refl _, by (first | exact NdOk_no rfl | (apply NdOk_all; (repeat' (first | exact trivial | apply And.intro | exact List.Mem.head _ | apply List.Mem.tail)); done) | (apply NdOk_need; (repeat' (first | exact trivial | apply And.intro | exact List.Mem.head _ | apply List.Mem.tail)); done)), ?_⟩) | (apply OpTo_val; exact rfl; exact has7; exact mayAt hS hC may37a _ (hG.le (by first | exact Le.refl _ | assumption | (repeat (first | assumption | (apply Le.trans; assumption))))) _ _ _ _ (SlOf.le hq (by first | exact Le.refl _ | assumption | (repeat (first | assumption | (apply Le.trans; assumption))))) (SlOf.le hp1 (by first | exact Le.refl _ | assumption | (repeat (first | assumption | (apply Le.trans; assumption))))) _ _ (SlOf.le hs2 (by first | exact Le.refl _ | assumption | (repeat (first | assumption | (apply Le.trans; assumption))))); refine ⟨Le.refl _, by (first | exact NdOk_no rfl | (apply NdOk_all; (repeat' (first | exact trivial | apply And.intro | exact List.Mem.head _ | apply List.Mem.tail)); done) | (apply NdOk_need; (repeat' (first | exact trivial | apply And.intro | exact List.Mem.head _ | apply List.Mem.tail)); done)), ?_⟩) | (apply OpTo_val; exact rfl; exact has7; exact mayAt hS hC may37b _ (hG.le (by first | exact Le.refl _ | assumption | (repeat (first | assumption | (apply Le.trans; assumption))))) _ _ _ _ (SlOf.le hq (by first | exact Le.refl _ | assumption | (repeat (first | assumption | (apply Le.trans; assumption))))) (SlOf.le hp1 (by first | exact Le.refl _ | assumption | (repeat (first | assumption | (apply Le.trans; assumption))))) _ _ (SlOf.le hs2 (by first | exact Le.refl _ | assumption | (repeat (first | assumption | (apply Le.trans; assumption))))); refine ⟨Le.refl _, by (first | exact NdOk_no rfl | (apply NdOk_all; (repeat' (first | exact trivial | apply And.intro | exact List.Mem.head _ | apply List.Mem.tail)); done) | (apply NdOk_need; (repeat' (first | exact trivial | apply And.intro | exact List.Mem.head _ | apply List.Mem.tail)); done)), ?_⟩))) | (apply GP_two; kernel_rfl; exact rfl; exact rfl) | (apply RealP_intro; exact rfl; exact rfl; exact rfl; exact rfl; (first | (apply OpTo_buildSliceS (enc := encP) (n := 2) [one37, two37]; exact rfl; exact rfl; exact rfl; exact List.cons_ne_nil _ _; exact rfl; exact rfl; exact rfl; exact rfl; exact fun _ => rfl; exact rfl; exact rfl; intro b1 h1 hle1 hp2; refine ⟨hle1, by (first | exact NdOk_no rfl | (apply NdOk_all; (repeat' (first | exact trivial | apply And.intro | exact List.Mem.head _ | apply List.Mem.tail)); done) | (apply NdOk_need; (repeat' (first | exact trivial | apply And.intro | exact List.Mem.head _ | apply List.Mem.tail)); done)), ?_⟩) | (apply OpTo_buildSliceS (enc := encP) (n := 1) [one37]; exact rfl; exact rfl; exact rfl; exact List.cons_ne_nil _ _; exact rfl; exact rfl; exact rfl; exact rfl; exact fun _ => rfl; exact rfl; exact rfl; intro b1 h1 hle1 hp1; refine ⟨hle1, by (first | exact NdOk_no rfl | (apply NdOk_all; (repeat' (first | exact trivial | apply And.intro | exact List.Mem.head _ | apply List.Mem.tail)); done) | (apply NdOk_need; (repeat' (first | exact trivial | apply And.intro | exact List.Mem.head _ | apply List.Mem.tail)); done)), ?_⟩) | (apply OpTo_res; exact rfl; exact has14; exact quotas_c _; rintro vr hr1 hle1 ⟨Aq, cq, rfl, hq⟩; refine ⟨hle1, by (first | exact NdOk_no rfl | (apply NdOk_all; (repeat' (first | exact trivial | apply And.intro | exact List.Mem.head _ | apply List.Mem.tail)); done) | (apply NdOk_need; (repeat' (first | exact trivial | apply And.intro | exact List.Mem.head _ | apply List.Mem.tail)); done)), ?_⟩))) | (apply GP_done; kernel_rfl; exact rfl) | (apply GP_split; exact rfl; exact rfl; exact rfl; exact rfl; exact rfl; all_goals intro hc; all_goals try simp only [ltI_t, ltI_f, leI_t, leI_f, eqI_t, eqI_f, Bool.not_eq_true', Bool.not_eq_false', decide_eq_true_eq, decide_eq_false_iff_not, reduceCtorEq] at hc; all_goals try (exfalso; omega)) | (apply GOl_split; exact rfl; exact rfl; all_goals intro hc; all_goals try simp only [ltI_t, ltI_f, leI_t, leI_f, eqI_t, eqI_f, Bool.not_eq_true', Bool.not_eq_false', decide_eq_true_eq, decide_eq_false_iff_not, reduceCtorEq] at hc; all_goals try (exfalso; omega)) | (apply GO_retV1; exact rfl; exact rfl; exact rfl))
  all_goals first | rfl | (simp [eqI_eq]; done) | (exfalso; simp at hc; done)
end Go.Hw

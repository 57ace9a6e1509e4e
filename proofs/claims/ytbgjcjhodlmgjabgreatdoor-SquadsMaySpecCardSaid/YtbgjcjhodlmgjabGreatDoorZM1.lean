import Derived.Test.YtbgjcjhodlmgjabGreatDoorNB
import Derived.Test.YtbgjcjhodlmgjabGreatDoorWB
set_option linter.unusedVariables false
set_option linter.unusedSimpArgs false
set_option maxRecDepth 100000
set_option maxHeartbeats 8000000
namespace Go.Hw
open Go
attribute [local irreducible] GO GOl GDp Val Fn Res CellsAt ValE Blk OwnS MapA Yl
open Go.Proofs (Tryz.prog)

theorem incr_sub : ∀ {b a : List Int}, a.Pairwise (· < ·) → b.Pairwise (· < ·) → (∀ x ∈ a, x ∈ b) → a.length ≤ b.length ∧ (a.length = b.length → a = b)
  | [], [], _, _, _ => by simp
  | [], x :: a, _, _, h => by have := h x (by simp); simp at this
  | y :: b, [], _, _, _ => by simp
  | y :: b, x :: a, ha, hb, h => by
    rw [List.pairwise_cons] at ha hb
    have hx := h x (by simp)
    by_cases e : x = y
    · subst e
      have ih := incr_sub ha.2 hb.2 fun z hz => by
        have h1 := h z (by simp [hz])
        have h2 := ha.1 z hz
        rcases List.mem_cons.1 h1 with h3 | h3
        · omega
        · exact h3
      exact ⟨by simp; exact ih.1, fun hl => by rw [ih.2 (by simpa using hl)]⟩
    · have hxb : x ∈ b := by rcases List.mem_cons.1 hx with h3 | h3; exact absurd h3 e; exact h3
      have hyx := hb.1 x hxb
      have ih := incr_sub (b := b) (a := x :: a) (List.pairwise_cons.2 ha) hb.2 fun z hz => by
        have h1 := h z hz
        rcases List.mem_cons.1 h1 with h3 | h3
        · rcases List.mem_cons.1 hz with h4 | h4
          · omega
          · have := ha.1 z h4; omega
        · exact h3
      have h5 := ih.1
      simp only [List.length_cons] at h5 ⊢
      exact ⟨by omega, fun hl => by omega⟩

theorem members_count (r : Reg) (club player : Int) : (membersL r club player).length = (squadL r club).length + if player ∈ squadL r club then 0 else 1 := by
  have hsi : (squadL r club).Pairwise (· < ·) := (squadL_spec r club r.ents).1
  split
  · rename_i h
    rw [incr_ext (members_incr r club player) hsi (fun x => by rw [members_mem]; constructor; rintro (h1 | rfl); exact h1; exact h; exact .inl)]; rfl
  · rename_i h
    rw [incr_ext (members_incr r club player) (insL_incr player hsi h) (fun x => by rw [members_mem, insL_mem]; exact or_comm), insL_len]

/-- The persons of a squad with a player more, who are born. -/
noncomputable def sqOut (r : Reg) (l : List Per) (club player day : Int) : List Per := l.filter fun p => decide ((p.player = player ∨ p.player ∈ squadL r club) ∧ p.born ≤ day)
theorem sqOut_ok {r : Reg} {l : List Per} {club player day : Int} (hl : PersOk l) :
    ((sqOut r l club player day).length = (membersL r club player).length ↔ AllKnown l (membersL r club player) day) ∧
    (AllKnown l (membersL r club player) day → sqOut r l club player day = ofNums l (membersL r club player)) := by
  have hoi : ((sqOut r l club player day).map fun p => p.player).Pairwise (· < ·) := by
    rw [List.pairwise_map]; exact List.Pairwise.filter _ hl.2
  have hsub : ∀ x ∈ (sqOut r l club player day).map (fun p => p.player), x ∈ membersL r club player := by
    intro x hx
    obtain ⟨p, hp, rfl⟩ := List.mem_map.1 hx
    have := (List.mem_filter.1 hp).2
    rw [decide_eq_true_eq] at this
    rw [members_mem]; exact this.1.symm
  have hs := incr_sub hoi (members_incr r club player) hsub
  rw [List.length_map] at hs
  have hk : AllKnown l (membersL r club player) day → ∀ x ∈ membersL r club player, x ∈ (sqOut r l club player day).map (fun p => p.player) := by
    intro hA x hx
    obtain ⟨p, hp, e, hb⟩ := hA x hx
    subst e
    rw [members_mem] at hx
    exact List.mem_map.2 ⟨p, List.mem_filter.2 ⟨hp, by rw [decide_eq_true_eq]; exact ⟨hx.symm, by omega⟩⟩, rfl⟩
  refine ⟨⟨fun h x hx => ?_, fun hA => ?_⟩, fun hA => ?_⟩
  · rw [← hs.2 h] at hx
    obtain ⟨p, hp, rfl⟩ := List.mem_map.1 hx
    have h1 := List.mem_filter.1 hp
    have := h1.2
    rw [decide_eq_true_eq] at this
    exact ⟨p, h1.1, rfl, by omega⟩
  · have := (incr_sub (members_incr r club player) hoi (hk hA)).1
    rw [List.length_map] at this
    omega
  · unfold sqOut ofNums
    apply List.filter_congr
    intro p hp
    rw [decide_eq_decide]
    constructor
    · rintro ⟨h1, h2⟩; rw [members_mem]; exact h1.symm
    · intro h1
      obtain ⟨p', hp', e, hb⟩ := hA _ h1
      have := find_uniq hl.2 hp' hp e
      subst this
      rw [members_mem] at h1
      exact ⟨h1.symm, by omega⟩


theorem inRf_c (h : Ro) (A : Option Addr) (n c : Nat) (l : List Int) (hx : SlOf encI 1 h A n l) (hn : n ≤ 1000000000) (x : Int) : Val Tryz.prog 36 #[.slice A n c, .int .i64 x] h (.bool (decide (x ∈ l))) := by
  refine Val_intro (args := [_, _]) ts_ok Go.Proofs.Tryz.func36 rfl rfl fun w0 X0 => ?_
  have hlen := hx.len
  repeat' (first | apply GO_seq | apply GO_block | apply GO_region | apply GOl_nil | (apply GOl_pv; exact rfl; exact rfl; exact rfl))
  refine GO_loopT (X := Nat) (fun k => k ≤ n ∧ x ∉ l.take k) (fun k => n - k) (fun k => [(5, .int .i64 k), (0, .slice A n c), (1, .int .i64 x)]) (fun _ => []) (fun _ => h) 0 ⟨by omega, by simp⟩ (by (repeat (first | exact trivial | refine ⟨rfl, ?_⟩)); done) (by (repeat (first | exact Takes_nil | (apply Takes_cons; exact (by (repeat (first | exact Take.here | apply Take.there)); done)))); done) rfl ?_
  rintro k ⟨hk, hI⟩ ih
  by_cases hkn : k < n
  · have a1 := hx.addrD hkn
    have c1 := hx.cellsD 0 hkn
    have hm := getD_mem 0 (show k < l.length by omega)
    have ht := take_snocQ 0 hlen hkn
    generalize l.getD k 0 = y at *
    repeat' (first | apply GO_seq | apply GO_skip | apply GO_inBlock | apply GO_block | apply GO_region | apply GOl_nil | (apply GOl_add; exact rfl; exact rfl; exact rfl; omega; exact rfl; exact rfl) | (apply GOl_pv; exact rfl; exact rfl; exact rfl) | (apply GOl_ov; exact rfl; exact rfl; (first | (apply OV_idxS (j := k); exact rfl; exact rfl; exact rfl; exact rfl; exact rfl; exact a1; (with_reducible exact rfl); omega) | (apply OV_load; exact rfl; exact Lv_ro rfl c1 rfl)); exact (by repeat' (first | exact trivial | apply And.intro | exact List.Mem.head _ | apply List.Mem.tail))) | (apply GO_cond; exact rfl; all_goals intro hc; all_goals try simp only [ltI_t, ltI_f, leI_t, leI_f, eqI_t, eqI_f, Bool.not_eq_true', Bool.not_eq_false', decide_eq_true_eq, decide_eq_false_iff_not, reduceCtorEq] at hc; all_goals try (exfalso; omega)) | (apply GO_retV1; exact rfl; exact rfl; exact rfl))
    · congr 1; symm; rw [decide_eq_true_eq]; have e : x = y := by omega
      rw [e]; exact hm
    · have h3 := ih (k + 1) ⟨by omega, by rw [ht, List.mem_append, List.mem_singleton]; rintro (h1 | h1); exact hI h1; omega⟩ (by omega)
      refine GO_fit (by (repeat (first | exact trivial | refine ⟨rfl, ?_⟩)); done) (by (repeat (first | exact Takes_nil | (apply Takes_cons; exact (by (repeat (first | exact Take.here | apply Take.there)); done)))); done) (h3)
  · rw [List.take_of_length_le (by omega)] at hI
    repeat' (first | apply GO_seq | apply GO_region | apply GOl_nil | (apply GO_exit; exact rfl) | (apply GOl_pv; exact rfl; exact rfl; exact rfl) | (apply GO_cond; exact rfl; all_goals intro hc; all_goals try simp only [ltI_t, ltI_f, leI_t, leI_f, eqI_t, eqI_f, Bool.not_eq_true', Bool.not_eq_false', decide_eq_true_eq, decide_eq_false_iff_not, reduceCtorEq] at hc; all_goals try (exfalso; omega)) | (apply GO_retV1; exact rfl; exact rfl; exact rfl))
    congr 1; symm; rw [decide_eq_false_iff_not]; exact hI

theorem sqOut_take (r : Reg) (l : List Per) (club player day : Int) (x : Per) : sqOut r (l ++ [x]) club player day = sqOut r l club player day ++ if (x.player = player ∨ x.player ∈ squadL r club) ∧ x.born ≤ day then [x] else [] := by
  unfold sqOut; rw [List.filter_append, List.filter_cons]
  by_cases h : (x.player = player ∨ x.player ∈ squadL r club) ∧ x.born ≤ day
  · rw [if_pos (decide_eq_true h), if_pos h]; rfl
  · rw [if_neg (by simpa using h), if_neg h]; rfl


theorem squadIn_c (h : Ro) (s : Rsh) (r : Reg) (hr : RegAt h s r) (B : Option Addr) (n d : Nat) (l : List Per) (hl : SlOf encP 4 h B n l) (hl2 : n ≤ 1000000) (club player day : Int) :
    Res Tryz.prog 37 #[regV r.league r.day s, .slice B n d, .int .i64 club, .int .i64 player, .int .i64 day] h (fun v h' => ∃ A c, v = .tuple #[.slice A (sqOut r l club player day).length c, .bool (decide ((sqOut r l club player day).length = (membersL r club player).length))] ∧ SlOf encP 4 h' A (sqOut r l club player day).length (sqOut r l club player day)) := by
  refine Res_intro (args := [_, _, _, _, _]) ts_ok Go.Proofs.Tryz.func37 rfl rfl fun w0 X0 => ?_
  have hlen := hl.len
  have hlr := hr.ents.len
  have hne := hr.ne
  have hsl := squadLlen r club
  have hmc := members_count r club player
  have hsq : ∀ h', Le h h' → Res Tryz.prog 62 #[regV r.league r.day s, .int .i64 club] h' (fun v h'' => ∃ A c, v = .slice A (squadL r club).length c ∧ SlOf encI 1 h'' A (squadL r club).length (squadL r club)) := fun h' hl => squadR_c h' s r (hr.le hl) club
  have hst := sqOut_take r
  repeat' (first | apply GO_seq | apply GO_block | apply GO_region | apply GOl_nil | (apply GOl_pv; exact rfl; exact rfl; exact rfl) | (apply GOl_load; exact rfl; exact Ld_blk rfl (by (repeat (first | exact List.Mem.head _ | apply List.Mem.tail)); done) rfl; exact rfl; exact rfl) | (apply GOl_to; exact rfl; exact rfl; exact rfl; (first | (apply OpTo_box; exact rfl; intro b; skip) | (apply OpTo_res; exact rfl; exact has62; exact hsq _ (by first | exact Le.refl _ | assumption | (repeat (first | assumption | (apply Le.trans; assumption)))); rintro v1 hs1 hle1 ⟨As, cs, rfl, hs⟩; skip) | (apply OpTo_buildSliceO (n := 0); exact rfl; exact rfl; exact rfl; exact List.cons_ne_nil _ _; exact rfl; exact rfl; exact rfl; exact rfl; exact rfl; exact rfl; intro bo; skip))))
  refine GO_loopT (X := Nat × Option Addr × Nat × Ro) (fun x => x.1 ≤ n ∧ Le hs1 x.2.2.2) (fun x => n - x.1)
    (fun x => [(14, .int .i64 x.1), (13, .slice x.2.1 (sqOut r (l.take x.1) club player day).length x.2.2.1), (12, .slice As (squadL r club).length cs), (1, .slice B n d), (3, .int .i64 player), (4, .int .i64 day)])
    (fun x => [OwnS 37 4 (.slice x.2.1 (sqOut r (l.take x.1) club player day).length x.2.2.1) (sqOut r (l.take x.1) club player day).length ((sqOut r (l.take x.1) club player day).flatMap encP)]) (fun x => x.2.2.2) (0, some ⟨bo, 0, none⟩, 0, hs1) ⟨by dsimp only; omega, Le.refl _⟩ (by (repeat (first | exact trivial | refine ⟨rfl, ?_⟩)); done) (by (repeat (first | exact Takes_nil | (apply Takes_cons; exact (by (repeat (first | exact Take.here | apply Take.there)); done)))); done) rfl ?_
  rintro ⟨k, Ao, co, hh⟩ ⟨hk, hlh⟩ ih
  dsimp only at hk hlh ih ⊢
  by_cases hkn : k < n
  · have a1 := hl.addrD hkn
    have c1 := (hl.cellsD p0 hkn).le (hle1.trans hlh)
    have ht := take_snocQ p0 hlen hkn
    have hin := inRf_c hh As _ cs _ (hs.le hlh) (by omega) (l.getD k p0).player
    have hst2 := hst (l.take k) club player day (l.getD k p0)
    rw [← ht] at hst2
    have hol : (sqOut r (l.take k) club player day).length ≤ n := by
      unfold sqOut
      have := List.length_filter_le (fun p : Per => decide ((p.player = player ∨ p.player ∈ squadL r club) ∧ p.born ≤ day)) (l.take k)
      rw [List.length_take] at this; omega
    generalize l.getD k p0 = x at *
    clear hst hsq
    by_cases hc0 : (x.player = player ∨ x.player ∈ squadL r club) ∧ x.born ≤ day
    · rw [if_pos hc0] at hst2
      have hlen2 : (sqOut r (l.take (k + 1)) club player day).length = (sqOut r (l.take k) club player day).length + 1 := by rw [hst2]; simp
      repeat' (first | apply GO_seq | apply GO_skip | apply GO_inBlock | apply GO_block | apply GO_region | apply GOl_nil | (apply GOl_unwanted; exact rfl; exact rfl) | (apply GOl_add; exact rfl; exact rfl; exact rfl; omega; exact rfl; exact rfl) | (apply GOl_pv; exact rfl; exact rfl; exact rfl) | (apply GOl_ov; exact rfl; exact rfl; (first | (apply OV_idxS (j := k); exact rfl; exact rfl; exact rfl; exact rfl; exact rfl; exact a1; (with_reducible exact rfl); omega) | (apply OV_load; exact rfl; exact Lv_roF rfl c1 rfl) | (apply OV_load; exact rfl; exact Lv_ro rfl c1 rfl)); exact (by repeat' (first | exact trivial | apply And.intro | exact List.Mem.head _ | apply List.Mem.tail))) | (apply GOl_to; exact rfl; exact rfl; exact rfl; (first | (apply OpTo_val; exact rfl; exact has36; exact hin; skip) | (apply OpTo_buildSliceS (enc := encP) (n := 1) [x]; exact rfl; exact rfl; exact rfl; exact List.cons_ne_nil _ _; exact rfl; exact rfl; exact rfl; exact rfl; exact fun _ => rfl; exact rfl; exact rfl; intro bq h6 hle7 hs7; skip) | (apply OpTo_appendS (enc := encP) (xs := sqOut r (l.take k) club player day) (ys := [x]); exact rfl; exact rfl; exact rfl; exact rfl; exact rfl; exact rfl; exact rfl; exact hs7; exact fun _ => rfl; exact fun _ => allOne_ok rfl; intro v1; exact (by (repeat (first | exact Repl.here | apply Repl.there)); done); omega; exact rfl; intro A3 c3; skip))) | (apply GO_cond; exact rfl; all_goals intro hc; all_goals try simp only [ltI_t, ltI_f, leI_t, leI_f, eqI_t, eqI_f, Bool.not_eq_true', Bool.not_eq_false', decide_eq_true_eq, decide_eq_false_iff_not, reduceCtorEq] at hc; all_goals try (exfalso; omega)) | (apply GOl_split; exact rfl; exact rfl; all_goals intro hc; all_goals try simp only [ltI_t, ltI_f, leI_t, leI_f, eqI_t, eqI_f, Bool.not_eq_true', Bool.not_eq_false', decide_eq_true_eq, decide_eq_false_iff_not, reduceCtorEq] at hc; all_goals try (exfalso; omega)))
      all_goals first
        | (exfalso; rcases hc0.1 with h1 | h1 <;> first | omega | (exact absurd h1 (by assumption)))
        | (have h3 := ih (k + 1, A3, c3, h6) ⟨by dsimp only; omega, hlh.trans hle7⟩ (by dsimp only; omega)
           dsimp only at h3
           rw [hlen2, hst2] at h3
           refine GO_fit (by (repeat (first | exact trivial | refine ⟨rfl, ?_⟩)); done) (by (repeat (first | exact Takes_nil | (apply Takes_cons; exact (by (repeat (first | exact Take.here | apply Take.there)); done)))); done) (h3))
       
    · rw [if_neg hc0, List.append_nil] at hst2
      have h3 := ih (k + 1, Ao, co, hh) ⟨by dsimp only; omega, hlh⟩ (by dsimp only; omega)
      dsimp only at h3
      rw [hst2] at h3
      repeat' (first | apply GO_seq | apply GO_skip | apply GO_inBlock | apply GO_block | apply GO_region | apply GOl_nil | (apply GOl_unwanted; exact rfl; exact rfl) | (apply GOl_add; exact rfl; exact rfl; exact rfl; omega; exact rfl; exact rfl) | (apply GOl_pv; exact rfl; exact rfl; exact rfl) | (apply GOl_ov; exact rfl; exact rfl; (first | (apply OV_idxS (j := k); exact rfl; exact rfl; exact rfl; exact rfl; exact rfl; exact a1; (with_reducible exact rfl); omega) | (apply OV_load; exact rfl; exact Lv_roF rfl c1 rfl) | (apply OV_load; exact rfl; exact Lv_ro rfl c1 rfl)); exact (by repeat' (first | exact trivial | apply And.intro | exact List.Mem.head _ | apply List.Mem.tail))) | (apply GOl_to; exact rfl; exact rfl; exact rfl; (first | (apply OpTo_val; exact rfl; exact has36; exact hin; skip))) | (apply GO_cond; exact rfl; all_goals intro hc; all_goals try simp only [ltI_t, ltI_f, leI_t, leI_f, eqI_t, eqI_f, Bool.not_eq_true', Bool.not_eq_false', decide_eq_true_eq, decide_eq_false_iff_not, reduceCtorEq] at hc; all_goals try (exfalso; omega)) | (apply GOl_split; exact rfl; exact rfl; all_goals intro hc; all_goals try simp only [ltI_t, ltI_f, leI_t, leI_f, eqI_t, eqI_f, Bool.not_eq_true', Bool.not_eq_false', decide_eq_true_eq, decide_eq_false_iff_not, reduceCtorEq] at hc; all_goals try (exfalso; omega)))
      all_goals first
        | (exfalso; exact hc0 ⟨(by first | exact .inr (by assumption) | exact .inl (by omega)), (by omega)⟩)
        | (refine GO_fit (by (repeat (first | exact trivial | refine ⟨rfl, ?_⟩)); done) (by (repeat (first | exact Takes_nil | (apply Takes_cons; exact (by (repeat (first | exact Take.here | apply Take.there)); done)))); done) (h3))
       
  · rw [List.take_of_length_le (by omega)]
    have hin := inRf_c hh As _ cs _ (hs.le hlh) (by omega) player
    have hol : (sqOut r l club player day).length ≤ l.length := List.length_filter_le _ _
    clear ih hst hsq
    generalize sqOut r l club player day = o2 at *
    by_cases hp : player ∈ squadL r club
    · rw [if_pos hp] at hmc
      rw [decide_eq_true hp] at hin
      refine GO_relS (enc := encP) (sz := 4) (n := o2.length) (xs := o2) (fun _ => rfl) rfl (by (repeat (first | exact Take.here | apply Take.there)); done) ?_
      intro A6 c6 h6 hle6 e6 hs6
      injection e6 with e61 _ e63
      subst e61; subst e63
      have hin6 := inRf_c h6 As _ cs _ (hs.le (hlh.trans hle6)) (by omega) player
      rw [decide_eq_true hp] at hin6
      repeat' (first | apply GO_seq | apply GO_skip | apply GO_region | apply GOl_nil | (apply GO_exit; exact rfl) | (apply GOl_pv; exact rfl; exact rfl; exact rfl) | (apply GOl_to; exact rfl; exact rfl; exact rfl; (first | (apply OpTo_val; exact rfl; exact has36; exact hin6; skip))) | (apply GO_cond; exact rfl; all_goals intro hc; all_goals try simp only [ltI_t, ltI_f, leI_t, leI_f, eqI_t, eqI_f, Bool.not_eq_true', Bool.not_eq_false', decide_eq_true_eq, decide_eq_false_iff_not, reduceCtorEq] at hc; all_goals try (exfalso; omega)))
      (first | (apply GO_retR2; exact rfl; exact rfl; exact rfl; exact rfl))
      refine ⟨Ao, co, ?_, hs6⟩
      rw [hmc, eqI_eq]
      refine congrArg (fun z : Bool => Value.tuple #[_, .bool z]) (decide_eq_decide.2 ?_)
      omega
    · rw [if_neg hp] at hmc
      refine GO_relS (enc := encP) (sz := 4) (n := o2.length) (xs := o2) (fun _ => rfl) rfl (by (repeat (first | exact Take.here | apply Take.there)); done) ?_
      intro A6 c6 h6 hle6 e6 hs6
      injection e6 with e61 _ e63
      subst e61; subst e63
      have hin6 := inRf_c h6 As _ cs _ (hs.le (hlh.trans hle6)) (by omega) player
      rw [decide_eq_false hp] at hin6
      repeat' (first | apply GO_seq | apply GO_region | apply GOl_nil | (apply GO_exit; exact rfl) | (apply GOl_add; exact rfl; exact rfl; exact rfl; omega; exact rfl; exact rfl) | (apply GOl_pv; exact rfl; exact rfl; exact rfl) | (apply GOl_to; exact rfl; exact rfl; exact rfl; (first | (apply OpTo_val; exact rfl; exact has36; exact hin6; skip))) | (apply GO_cond; exact rfl; all_goals intro hc; all_goals try simp only [ltI_t, ltI_f, leI_t, leI_f, eqI_t, eqI_f, Bool.not_eq_true', Bool.not_eq_false', decide_eq_true_eq, decide_eq_false_iff_not, reduceCtorEq] at hc; all_goals try (exfalso; omega)))
      (first | (apply GO_retR2; exact rfl; exact rfl; exact rfl; exact rfl))
      refine ⟨Ao, co, ?_, hs6⟩
      rw [hmc, eqI_eq]
      refine congrArg (fun z : Bool => Value.tuple #[_, .bool z]) (decide_eq_decide.2 ?_)
      omega
end Go.Hw

/-
  Hw, part F: new blocks, indexes, slices, calls, append, the way out.
-/
import Derived.Test.YtbgjcjhodlmgjaaHwE
set_option linter.unusedVariables false
namespace Go.Hw
open Go

section ops
variable {C : Ctx} {ds : List Deferred} {l : Sl} {Es : List Asn} {h : Ro} {K : List Item} {ops : Array Oper} {os : List Oper}
  {d : Tmp} {ty : TypeId} {pos : String} {aft : Array Edge} {gd : Option (Nat × Bool)}

/-! #### New blocks -/
theorem Blk_holds (b : Nat) (T : TypeId) (cs : List Value) : ∀ m : Ro, m b = some (.cells cs.toArray T (0, 0)) → (Blk b T cs).holds [b] m := fun m e => ⟨rfl, e⟩

theorem GOl_box {e : TypeId} {x : Operand} {v : Value}
    (hx : evl l x = some v)
    (hg : wantedB ops l gd = some true) (hd : dstOk C.N (some d) = true) (g : ∀ b, GOl C ds ((d, (.pointer (some ⟨b, 0, none⟩))) :: l) (Blk b e (partL v) :: Es) h ops os K) : GOl C ds l Es h ops (⟨some d, .box e x, ty, pos, aft, gd⟩ :: os) K :=
  GOl_op (o := ⟨some d, .box e x, ty, pos, aft, gd⟩) hg hd rfl fun a w hs hp =>
    .inl ⟨_, _, _, h, by simp only [execOp, hs.eval hx, Instr.box, newVar, newRow, newObj, Sem.run_bind, Sem.run_pure, Sem.run, Result.andThen_ok, partL_ok],
      hp.alloc (.cells (partL v).toArray e) (Blk w.heap.size e (partL v)) (Blk_holds _ _ _), g _⟩

theorem GOl_alloc {e : TypeId} {T : Ty} (hT : tyOf e C.ts = some T)
    (hg : wantedB ops l gd = some true) (hd : dstOk C.N (some d) = true) (g : ∀ b, GOl C ds ((d, (.pointer (some ⟨b, 0, none⟩))) :: l) (Blk b e (partL T.zero) :: Es) h ops os K) : GOl C ds l Es h ops (⟨some d, .alloc e, ty, pos, aft, gd⟩ :: os) K :=
  GOl_op (o := ⟨some d, .alloc e, ty, pos, aft, gd⟩) hg hd rfl fun a w hs hp =>
    .inl ⟨_, _, _, h, by simp only [execOp, Instr.alloc, C.ok.run_zero hT, newVar, newRow, newObj, Sem.run_bind, Sem.run_pure, Sem.run, Result.andThen_ok, partL_ok],
      hp.alloc (.cells (partL T.zero).toArray e) (Blk w.heap.size e (partL T.zero)) (Blk_holds _ _ _), g _⟩

theorem flat_get (z : List Value) : ∀ (n i : Nat), (List.replicate n z).flatten[i]? = if i < n * z.length then z[i % z.length]? else none
  | 0, i => by simp
  | n + 1, i => by
    rw [List.replicate_succ, List.flatten_cons]
    by_cases h1 : i < z.length
    · rw [List.getElem?_append_left h1, if_pos (by rw [Nat.succ_mul]; omega), Nat.mod_eq_of_lt h1]
    · rw [List.getElem?_append_right (by omega), flat_get z n]
      have e : (i - z.length) % z.length = i % z.length := (Nat.mod_eq_sub_mod (by omega)).symm
      rw [e]
      by_cases h2 : i < (n + 1) * z.length
      · rw [if_pos h2, if_pos (by rw [Nat.succ_mul] at h2; omega)]
      · rw [if_neg h2, if_neg (by rw [Nat.succ_mul] at h2; omega)]

theorem zero_row (z : List Value) (n : Nat) (hz : z ≠ []) : ((Array.range (n * z.length)).map fun i => z.toArray[i % z.toArray.size]!) = ((List.replicate n z).flatten).toArray := by
  have hl : 0 < z.length := List.length_pos_iff.2 hz
  apply Array.ext_getElem?
  intro i
  have h1 := flat_get z n i
  simp only [List.getElem?_toArray] at h1 ⊢
  rw [h1]
  by_cases h2 : i < n * z.length
  · rw [if_pos h2, Array.getElem?_eq_getElem (by simpa using h2)]
    have h3 : i % z.length < z.length := Nat.mod_lt _ hl
    simp [h3]
  · rw [if_neg h2, Array.getElem?_eq_none (by simpa using h2)]

def repl (z : List Value) : Nat → List Value
  | 0 => []
  | n + 1 => z ++ repl z n
theorem repl_eq (z : List Value) : ∀ n, repl z n = (List.replicate n z).flatten
  | 0 => rfl
  | n + 1 => by rw [repl, List.replicate_succ, List.flatten_cons, repl_eq z n]

theorem GOl_buildSlice {t e n : Nat} {parts : Array (Nat × Operand)} {ps : List (Nat × Value)} {T E : Ty} {cs : List Value} (hT : tyOf t C.ts = some T) (hTd : T.desc = .slice e) (hE : tyOf e C.ts = some E)
    (hz : partL E.zero ≠ []) (hzl : (partL E.zero).length = E.size) (hn : Nat.ble (n * E.size) 16777216 = true) (hp : evlP l parts.toList = some ps) (hc : fillL (fun i => some (i * E.size, E.size)) ps (repl (partL E.zero) n) = some cs)
    (hg : wantedB ops l gd = some true) (hd : dstOk C.N (some d) = true) (g : ∀ b, GOl C ds ((d, (.slice (some ⟨b, 0, none⟩) n n)) :: l) (Blk b e cs :: Es) h ops os K) : GOl C ds l Es h ops (⟨some d, .buildSlice t n parts, ty, pos, aft, gd⟩ :: os) K :=
  GOl_op (o := ⟨some d, .buildSlice t n parts, ty, pos, aft, gd⟩) hg hd rfl fun a w hs hp' =>
    .inl ⟨.slice (some ⟨w.heap.size, 0, none⟩) n n, { w with heap := w.heap.push (.cells cs.toArray e) }, _, h, by
      obtain ⟨D0, hu, hb0⟩ := C.ok.run_und hT
      have hu := hu w
      rw [hTd] at hb0
      rw [blank_slice hb0] at hu
      have e1 := evlP_ok hs hp
      have q1 : (parts.map fun x => match x with | (i, x) => (i, a.eval x)) = ps.toArray := by rw [← e1]; apply Array.ext'; simp
      have hf := fillL_ok hc
      have hle : ¬ (n * E.size > 2 ^ 24) := by have := Nat.le_of_ble_eq_true hn; omega
      have hrow : ((Array.range (n * E.size)).map fun i => (partL E.zero).toArray[i % (partL E.zero).toArray.size]!) = (repl (partL E.zero) n).toArray := by
        rw [repl_eq, ← hzl]; exact zero_row _ _ hz
      have hpos : 0 < E.size := by rw [← hzl]; exact List.length_pos_iff.2 hz
      simp only [execOp, Instr.buildSlice, Sem.run_bind, hu, C.ok.run_size hE, Result.andThen_ok, Sem.run_ite, hle, if_false, q1]
      by_cases h0 : n * E.size = 0
      · have hn0 : n = 0 := by rcases Nat.mul_eq_zero.1 h0 with h1 | h1 <;> omega
        subst hn0
        simp only [Nat.zero_mul, if_true, Sem.run_pure, Result.andThen_ok]
        have hr0 : ((Array.range 0).map fun i => (#[] : Array Value)[i % (#[] : Array Value).size]!) = (repl (partL E.zero) 0).toArray := by simp [repl]
        rw [hr0, hf]
        rfl
      · simp only [h0, if_false, C.ok.run_zero hE, Sem.run_bind, Result.andThen_ok, Sem.run_pure, partL_ok, hrow, hf]
        rfl, hp'.alloc (.cells cs.toArray e) (Blk w.heap.size e cs) (Blk_holds _ _ _), g _⟩

/-! #### Indexes -/
theorem GOl_idx {t e : TypeId} {x y : Operand} {ad : Addr} {n c j : Nat} {k : IntKind} {i : Int} {T E : Ty} (hT : tyOf t C.ts = some T) (hTd : T.desc = .slice e) (hE : tyOf e C.ts = some E)
    (hx : evl l x = some (.slice (some ad) n c)) (hy : evl l y = some (.int k i)) (hi : i = (j : Int)) (hj : j < n)
    (hg : wantedB ops l gd = some true) (hd : dstOk C.N (some d) = true) (g : GOl C ds ((d, .pointer (some (ad.add (j * E.size)))) :: l) Es h ops os K) : GOl C ds l Es h ops (⟨some d, .indexAddr t x y, ty, pos, aft, gd⟩ :: os) K :=
  GOl_op (o := ⟨some d, .indexAddr t x y, ty, pos, aft, gd⟩) hg hd rfl fun a w hs hp =>
    .inl ⟨_, w, Es, h, by
      obtain ⟨D0, hu, hb0⟩ := C.ok.run_und hT
      have hu := hu w
      rw [hTd] at hb0
      rw [blank_slice hb0] at hu
      subst hi
      have hb : (0 : Int) ≤ (j : Int) ∧ (j : Int) < (n : Int) := ⟨by omega, by omega⟩
      simp only [execOp, hs.eval hx, hs.eval hy, Instr.indexAt, asIntOf, Sem.run_bind, Sem.run_pure, Result.andThen_ok, hu, Sem.run_ite, hb, and_self, if_true, C.ok.run_size hE, Int.toNat_natCast], hp, g⟩

/-- An index into an array in memory. -/
theorem GOl_idxA {t e m : TypeId} {x y : Operand} {ad : Addr} {j : Nat} {k : IntKind} {i : Int} {T E : Ty} (hT : tyOf t C.ts = some T) (hTd : T.desc = .array m e) (hE : tyOf e C.ts = some E)
    (hx : evl l x = some (.pointer (some ad))) (hy : evl l y = some (.int k i)) (hi : i = (j : Int)) (hj : j < m)
    (hg : wantedB ops l gd = some true) (hd : dstOk C.N (some d) = true) (g : GOl C ds ((d, .pointer (some (ad.add (j * E.size)))) :: l) Es h ops os K) : GOl C ds l Es h ops (⟨some d, .indexAddr t x y, ty, pos, aft, gd⟩ :: os) K :=
  GOl_op (o := ⟨some d, .indexAddr t x y, ty, pos, aft, gd⟩) hg hd rfl fun a w hs hp =>
    .inl ⟨_, w, Es, h, by
      obtain ⟨D0, hu, hb0⟩ := C.ok.run_und hT
      have hu := hu w
      rw [hTd] at hb0
      rw [blank_array hb0] at hu
      subst hi
      have hb : (0 : Int) ≤ (j : Int) ∧ (j : Int) < (m : Int) := ⟨by omega, by omega⟩
      simp only [execOp, hs.eval hx, hs.eval hy, Instr.indexAt, Instr.sureAddr, asIntOf, Sem.run_bind, Sem.run_pure, Result.andThen_ok, hu, Sem.run_ite, hb, and_self, if_true, C.ok.run_size hE, Int.toNat_natCast], hp, g⟩

/-! #### Calls -/
theorem OpTo_call {o : Oper} {f : FuncId} {args : List Value} {Es0 Fs : List Asn} {Post : Value → List Asn → Ro → Prop} {G : Value → List Asn → Ro → Prop}
    (hrun : ∀ a w, SlotsOk l a → (execOp a.eval o).run C.P w = .ok (.enter f args.toArray) w) (hE : Es = Es0 ++ Fs) (hf : Fn C.P f args.toArray Es0 h Post)
    (g : ∀ v Es' h', Le h h' → Post v Es' h' → G v (Es' ++ Fs) h') : OpTo C l Es h o G := fun a w hs hp => by
  subst hE
  refine .inr (.inr (.inl ⟨f, args.toArray, w, hrun a w hs, ?_⟩))
  obtain ⟨Ds, ho, hn, hb⟩ := hp.own
  obtain ⟨D1, D2, rfl, ho1, ho2⟩ := ho.split
  have hb1 : ∀ b ∈ D1.flatten, b ∈ (D1 ++ D2).flatten := fun b h1 => by rw [List.flatten_append, List.mem_append]; exact .inl h1
  refine (hf w D1.flatten hp.ro ⟨D1, ho1, ?_, fun b h1 => ⟨(hb b (hb1 b h1)).1, h1, (hb b (hb1 b h1)).2.2⟩⟩).mono ?_
  · rw [List.flatten_append, List.nodup_append] at hn; exact hn.1
  · rintro e w2 ⟨v, rfl, Es', h', hP, H'⟩
    exact ⟨v, rfl, Es' ++ Fs, h', hp.call ho1 ho2 hn hb H', g v Es' h' H'.le hP⟩

theorem run_callFunc {P : Program} {f : FuncId} {fn : Func} {args : Array Value} (hf : P.funcs[f]? = some fn) (hb : fn.body.isNone = false) (hname : (fn.name == "runtime.NumGoroutine") = false) (w : World) :
    (callFunc f args).run P w = .ok (.enter f args) w := by
  simp only [callFunc, Sem.run_bind, run_program, Result.andThen_ok, hf, hname, hb, Bool.false_eq_true, if_false, Sem.run_pure]

/-- What is asked of a function of the program, that a call may enter it. -/
def Has (P : Program) (f : FuncId) : Prop := ∃ fn, P.funcs[f]? = some fn ∧ fn.body.isNone = false ∧ (fn.name == "runtime.NumGoroutine") = false

theorem GOl_call {d : Option Tmp} {c : Operand} {xs : Array Operand} {tys : Array TypeId} {f : FuncId} {fs cs vs : List Value} {Es0 Fs : List Asn} {Post : Value → List Asn → Ro → Prop}
    (hc : evl l c = some (.func (.func f) fs.toArray cs.toArray)) (hxs : evlL l xs.toList = some vs) (hE : Es = Es0 ++ Fs) (hh : Has C.P f) (hf : Fn C.P f (fs ++ vs ++ cs).toArray Es0 h Post)
    (hg : wantedB ops l gd = some true) (hd : dstOk C.N d = true)
    (g : ∀ v Es' h', Le h h' → Post v Es' h' → GOl C ds (putS d v l) (Es' ++ Fs) h' ops os K) : GOl C ds l Es h ops (⟨d, .call ⟨.value c, xs, tys⟩, ty, pos, aft, gd⟩ :: os) K := by
  refine GOl_op (o := ⟨d, .call ⟨.value c, xs, tys⟩, ty, pos, aft, gd⟩) hg hd rfl (OpTo_call (fun a w hs => ?_) hE hf g)
  obtain ⟨fn, h1, h2, h3⟩ := hh
  have e1 := evlL_ok hs hxs
  have q1 : xs.map a.eval = vs.toArray := by rw [← e1]; apply Array.ext'; simp
  simp only [execOp, resolve, hs.eval hc, Deferred.ofValue, Sem.run_bind, Sem.run_pure, Result.andThen_ok, invoke, q1]
  rw [show fs.toArray ++ vs.toArray ++ cs.toArray = (fs ++ vs ++ cs).toArray by simp]
  exact run_callFunc h1 h2 h3 w

/-- A call of a function by its name. -/
theorem GOl_callF {d : Option Tmp} {xs : Array Operand} {tys : Array TypeId} {f : FuncId} {vs : List Value} {Es0 Fs : List Asn} {Post : Value → List Asn → Ro → Prop}
    (hxs : evlL l xs.toList = some vs) (hE : Es = Es0 ++ Fs) (hh : Has C.P f) (hf : Fn C.P f vs.toArray Es0 h Post)
    (hg : wantedB ops l gd = some true) (hd : dstOk C.N d = true)
    (g : ∀ v Es' h', Le h h' → Post v Es' h' → GOl C ds (putS d v l) (Es' ++ Fs) h' ops os K) : GOl C ds l Es h ops (⟨d, .call ⟨.value (.func f), xs, tys⟩, ty, pos, aft, gd⟩ :: os) K :=
  GOl_call (f := f) (fs := []) (cs := []) rfl hxs hE hh (by simpa using hf) hg hd g

/-! #### append -/
theorem GOl_append {x y : Operand} {t e : TypeId} {v : Value} {n m c : Nat} {xs news : List Value} {ad : Addr} {T E : Ty} {Es' : Value → List Asn} (hT : tyOf t C.ts = some T) (hTd : T.desc = .slice e) (hE : tyOf e C.ts = some E)
    (hz : E.zero.cells.size = E.size) (hsz : 0 < E.size)
    (hx : evl l x = some v) (hy : evl l y = some (.slice (some ad) m c)) (hR : ∀ v', Repl Es (OwnS e E.size v n xs) (OwnS e E.size v' (n + m) (xs ++ news)) (Es' v'))
    (hnl : news.length = m * E.size) (hnews : ∀ w, Hp C.w0 C.X0 C.h0 Es h w → ∀ j u, news[j]? = some u → w.cell? (ad.add j) = some u) (h1 : ∀ u ∈ news, u.oneCell' = true)
    (h63 : n + m ≤ maxLen) (hbytes : (n + m) * E.bytes ≤ 140737488355328)
    (hg : wantedB ops l gd = some true) (hd : dstOk C.N (some d) = true)
    (g : ∀ v', (v' = .slice none 0 0 ↔ v = .slice none 0 0 ∧ m = 0) → GOl C ds ((d, v') :: l) (Es' v') h ops os K) : GOl C ds l Es h ops (⟨some d, .call ⟨.builtin .append, #[x, y], #[t, t]⟩, ty, pos, aft, gd⟩ :: os) K := by
  refine GOl_op (o := ⟨some d, .call ⟨.builtin .append, #[x, y], #[t, t]⟩, ty, pos, aft, gd⟩) hg hd rfl fun a w hs hp => ?_
  obtain ⟨i, hi, hi1, hi2, hi3⟩ := C.ok.info hE
  obtain ⟨D0, hu, hb0⟩ := C.ok.und hT
  rw [hTd] at hb0
  rw [blank_slice hb0] at hu
  obtain ⟨Ds, hown, hnod, hbd⟩ := hp.own
  obtain ⟨D, hA, hDn, hsub, _⟩ := (hR v).own hown hnod
  have hrow : w.ownsRow 0 e E.size v n xs := by
    obtain ⟨hl, hr⟩ := hA
    refine ⟨hl, hr.imp (fun ⟨h1, h2, _⟩ => ⟨h1, h2⟩) fun ⟨g, cap, cur, h1, h2, h3, h4, h5, h6, h7⟩ => ⟨g, cap, cur, h1, Nat.zero_le _, h3, h4, h5, h6, h7⟩⟩
  obtain ⟨v', w', hrun, hown', hgrow, hnil, hblk⟩ := run_append_own_at (P := C.P) w 0 t ty e i E.zero E.size E.bytes hu hi hi3 hi1 hi2 hz hsz v n xs hrow ad m c news hnl (hnews w hp) h1 h63 hbytes (Nat.zero_le _)
  refine .inl ⟨v', w', Es' v', h, ?_, ?_, g v' hnil⟩
  · simp only [execOp, resolve, invoke, builtin, Sem.run_bind, Sem.run_pure, Result.andThen_ok, List.map_toArray, List.map_cons, List.map_nil, hs.eval hx, hs.eval hy, hrun]
  · refine hp.repl (hR v') hgrow.os hgrow.tape hgrow.output hgrow.size fun D hA hDn hDl => ?_
    obtain ⟨hl, hr⟩ := hA
    obtain ⟨hl', hr'⟩ := hown'
    have hvD : ∀ i, i ∉ D → some i ≠ v.ownBlock := by
      intro i hi he
      rcases hr with ⟨rfl, _, _⟩ | ⟨g, cap, cur, rfl, rfl, _⟩
      · simp [Value.ownBlock] at he
      · simp only [Value.ownBlock, Option.some.injEq] at he; subst he; exact hi (by simp)
    rcases hr' with ⟨rfl, hn0⟩ | ⟨g, cap, cur, rfl, _, hh, hrest⟩
    · refine ⟨[], ⟨hl', .inl ⟨rfl, hn0, rfl⟩⟩, List.nodup_nil, by simp, fun i hi hni => hgrow.block i hi (hvD i hni)⟩
    · refine ⟨[g], ⟨hl', .inr ⟨g, cap, cur, rfl, rfl, hh, hrest⟩⟩, by simp, fun b hb => ?_, fun i hi hni => hgrow.block i hi (hvD i hni)⟩
      simp only [List.mem_singleton] at hb
      subst hb
      refine ⟨?_, (Array.getElem?_eq_some_iff.1 hh).1⟩
      rcases hblk with hb | hb
      · left
        rcases hr with ⟨rfl, _, _⟩ | ⟨g', cap', cur', rfl, rfl, _⟩
        · simp [Value.ownBlock] at hb
        · simp only [Value.ownBlock, Option.some.injEq] at hb; subst hb; simp
      · right
        simp only [Value.ownBlock, Option.some.injEq] at hb; omega

/-! #### The way out -/
def fnQ (P : Program) (fn : Func) (w0 : World) (X0 : List Nat) (h0 : Ro) (Post : Value → List Asn → Ro → Prop) : Exit → Act → World → Prop :=
  bodyPostM Fence.wide 0 P fn fun e w' => ∃ v, e = .returned v ∧ ∃ Es h, Post v Es h ∧ Hp w0 X0 h0 Es h w'

def ResV (C : Ctx) (l : Sl) (Es : List Asn) (h : Ro) : List ResultVar → List Value → Prop
  | [], [] => True
  | .tmp t :: r, v :: vs => look t l = some v ∧ ResV C l Es h r vs
  | .cell a T :: r, v :: vs => (∃ ad, look a l = some (.pointer (some ad)) ∧ Ld C Es h T ad v) ∧ ResV C l Es h r vs
  | _, _ => False

def resVal : List Value → Value
  | [v] => v
  | vs => .tuple vs.toArray

def resOne (tmps : Array Value) : ResultVar → Sem Value
  | .tmp t => pure (tmps.getD t undef)
  | .cell c t => do loadVar t (← asAddr (tmps.getD c undef))

theorem ResV_ok {a : Act} {w : World} (hs : SlotsOk l a) (hp : Hp C.w0 C.X0 C.h0 Es h w) : ∀ {rs : List ResultVar} {vs : List Value}, ResV C l Es h rs vs →
    (rs.mapM (resOne a.tmps) : Sem (List Value)).run C.P w = .ok vs w
  | [], [], _ => rfl
  | .tmp t :: r, v :: vs, ⟨h1, h2⟩ => by
    have e : a.tmps.getD t undef = v := hs.eval (x := .tmp t) h1
    simp only [List.mapM_cons, resOne, Sem.run_bind, Sem.run_pure, Result.andThen_ok, e, ResV_ok hs hp h2]
  | .cell c T :: r, v :: vs, ⟨⟨ad, h1, hl⟩, h2⟩ => by
    have e : a.tmps.getD c undef = .pointer (some ad) := hs.eval (x := .tmp c) h1
    have h3 := ResV_ok hs hp h2
    have h4 := hl w hp
    simp only [List.mapM_cons, resOne, e, asAddr, Sem.run_bind, Sem.run_pure, Result.andThen_ok, h4, h3]
  | [], _ :: _, h => h.elim
  | .tmp _ :: _, [], h => h.elim
  | .cell _ _ :: _, [], h => h.elim

theorem results_eq (fn : Func) (tmps : Array Value) : results fn tmps = (do
    let vs ← fn.results.mapM (resOne tmps)
    pure (if h : vs.size = 1 then vs[0] else .tuple vs) : Sem Value) := by
  have : (fun x => match x with | ResultVar.tmp t => pure (tmps.getD t undef) | .cell a t => do loadVar t (← asAddr (tmps.getD a undef)) : ResultVar → Sem Value) = resOne tmps := by
    funext x; cases x <;> rfl
  rw [← this]
  rfl

theorem results_ok {fn : Func} {a : Act} {w : World} {rs : List ResultVar} {vs : List Value} (hr : fn.results = rs.toArray) (hs : SlotsOk l a) (hp : Hp C.w0 C.X0 C.h0 Es h w) (hv : ResV C l Es h rs vs) :
    (results fn a.tmps).run C.P w = .ok (resVal vs) w := by
  have := ResV_ok hs hp hv
  have h2 : (fn.results.mapM (resOne a.tmps) : Sem (Array Value)).run C.P w = .ok vs.toArray w := by
    rw [hr, List.mapM_toArray]
    simp only [Sem.run_map, this, Result.andThen_ok]
  rw [results_eq]
  simp only [Sem.run_bind, h2, Result.andThen_ok, Sem.run_pure]
  match vs with
  | [] => rfl
  | [v] => rfl
  | v :: u :: r => rfl

theorem GO_ret {fn : Func} {Post : Value → List Asn → Ro → Prop} {rs : List ResultVar} {vs : List Value} (hQ : C.Q = fnQ C.P fn C.w0 C.X0 C.h0 Post) (hr : fn.results = rs.toArray) (hv : ResV C l Es h rs vs) (hP : Post (resVal vs) Es h) :
    GO C [] l Es h (.code .ret :: K) := fun a w s => todo_ret (by
  rw [hQ]
  show LeavesInM _ _ _ _ _ _ a.defers _ _
  rw [s.defers]
  exact ⟨_, results_ok hr s.slots s.hp hv, _, rfl, Es, h, hP, s.hp⟩)

theorem GO_end {fn : Func} {Post : Value → List Asn → Ro → Prop} {rs : List ResultVar} {vs : List Value} (hQ : C.Q = fnQ C.P fn C.w0 C.X0 C.h0 Post) (hr : fn.results = rs.toArray) (hv : ResV C l Es h rs vs) (hP : Post (resVal vs) Es h) :
    GO C [] l Es h [] := fun a w s => todo_end (by
  rw [hQ]
  show LeavesInM _ _ _ _ _ _ a.defers _ _
  rw [s.defers]
  exact ⟨_, results_ok hr s.slots s.hp hv, _, rfl, Es, h, hP, s.hp⟩)

end ops

/-! ### A function's contract -/
def argS : Nat → List Value → Sl
  | _, [] => []
  | k, v :: r => (k, v) :: argS (k + 1) r

theorem argS_look : ∀ {vs : List Value} {k i : Nat} {v : Value}, look i (argS k vs) = some v → k ≤ i ∧ vs[i - k]? = some v
  | [], _, _, _, h => by cases h
  | u :: r, k, i, v, h => by
    simp only [argS, look] at h
    cases hb : Nat.beq i k with
    | true =>
      rw [hb] at h
      simp only [cond_true, Option.some.injEq] at h
      have := Nat.eq_of_beq_eq_true hb
      subst this; subst h
      simp
    | false =>
      rw [hb] at h
      obtain ⟨h1, h2⟩ := argS_look (k := k + 1) h
      refine ⟨by omega, ?_⟩
      rw [show i - k = (i - (k + 1)) + 1 by omega]
      simpa using h2

def mkC (P : Program) (ts : List Ty) (ok : TsOk P ts) (fn : Func) (w0 : World) (X0 : List Nat) (h0 : Ro) (Post : Value → List Asn → Ro → Prop) : Ctx :=
  { P, ts, ok, ro := none, N := fn.ntmps, w0, X0, h0, Q := fnQ P fn w0 X0 h0 Post }

theorem Fn_intro {P : Program} {ts : List Ty} (ok : TsOk P ts) {f : FuncId} {fn : Func} {c : Code} {args : List Value} {Es0 : List Asn} {h0 : Ro} {Post : Value → List Asn → Ro → Prop}
    (hf : P.funcs[f]? = some fn) (hb : fn.body = some c) (hn : Nat.ble args.length fn.ntmps = true)
    (g : ∀ w0 X0, GO (mkC P ts ok fn w0 X0 h0 Post) [] (argS 0 args) Es0 h0 [.code c]) : Fn P f args.toArray Es0 h0 Post := by
  intro w X0 hl ⟨Ds, ho, hnd, hbd⟩
  refine calls_of_todo hf hb (g w X0 _ w ⟨?_, rfl, ?_, ?_⟩)
  · have := Nat.le_of_ble_eq_true hn
    simp [mkC]; omega
  · intro i v e
    obtain ⟨_, h2⟩ := argS_look e
    have hi : i < args.length := (List.getElem?_eq_some_iff.1 h2).1
    simp only [Nat.sub_zero] at h2
    rw [Array.getElem?_append_left (by simpa using hi)]
    simpa using h2
  · exact ⟨rfl, rfl, rfl, Nat.le_refl _, fun _ _ _ => rfl, hl, Le.refl _, fun i o e => .inl e, Ds, ho, hnd, fun b hb => ⟨(hbd b hb).1, .inr (hbd b hb).2.1, (hbd b hb).2.2⟩⟩

/-- A loop: what holds at a round's head (of 'x'), and a measure that every round lowers. -/
theorem GO_while {C : Ctx} {ds : List Deferred} {l : Sl} {Es : List Asn} {h : Ro} {K : List Item} {c : Code} {X : Type} (I : X → Prop) (μ : X → Nat) (S : X → Sl) (E : X → List Asn) (H : X → Ro) (x0 : X)
    (hi : I x0) (hs : Slots (S x0) l) (hE : E x0 = Es) (hH : H x0 = h)
    (round : ∀ x, I x → (∀ y, I y → μ y < μ x → GO C ds (S y) (E y) (H y) (.inLoop c :: K)) → GO C ds (S x) (E x) (H x) (.code c :: .inLoop c :: K)) :
    GO C ds l Es h (.code (.loop c) :: K) := by
  have key : ∀ n x, μ x = n → I x → GO C ds (S x) (E x) (H x) (.code c :: .inLoop c :: K) := by
    intro n
    induction n using Nat.strongRecOn with
    | _ n ih =>
      intro x hx hI
      exact round x hI fun y hy hlt => GO_inLoop (ih (μ y) (hx ▸ hlt) y rfl hy)
  subst hE; subst hH
  exact GO_loop (GO_keep hs (key _ x0 rfl hi))


section
variable {C : Ctx} {ds : List Deferred} {l : Sl} {Es : List Asn} {h : Ro} {K : List Item}
theorem GO_condD {c : Operand} {x y : Code} {p : Prop} {inst : Decidable p} (hc : evl l c = some (.bool (decide p))) (ht : p → GO C ds l Es h (.code x :: K)) (hf : ¬ p → GO C ds l Es h (.code y :: K)) :
    GO C ds l Es h (.code (.cond c x y) :: K) := GO_cond hc (fun e => ht (of_decide_eq_true e)) (fun e => hf (of_decide_eq_false e))
theorem GO_condN {c : Operand} {x y : Code} {p : Prop} {inst : Decidable p} (hc : evl l c = some (.bool (!decide p))) (ht : ¬ p → GO C ds l Es h (.code x :: K)) (hf : p → GO C ds l Es h (.code y :: K)) :
    GO C ds l Es h (.code (.cond c x y) :: K) := GO_cond hc (fun e => ht (by simpa using e)) (fun e => hf (by simpa using e))
theorem GO_condB {c : Operand} {x y : Code} {p : Bool} (hc : evl l c = some (.bool (!p))) (ht : p = false → GO C ds l Es h (.code x :: K)) (hf : p = true → GO C ds l Es h (.code y :: K)) :
    GO C ds l Es h (.code (.cond c x y) :: K) := GO_cond hc (fun e => ht (by simpa using e)) (fun e => hf (by simpa using e))
variable {ops : Array Oper} {os : List Oper} {o : Oper} {d : Nat} {b : Bool}
theorem GOl_splitD {p : Prop} {inst : Decidable p} (hg : guardSlot ops o.guard = some (d, b)) (hc : look d l = some (.bool (decide p))) (ht : p → GOl C ds ((d, .bool true) :: l) Es h ops (o :: os) K)
    (hf : ¬ p → GOl C ds ((d, .bool false) :: l) Es h ops (o :: os) K) : GOl C ds l Es h ops (o :: os) K := GOl_split hg hc (fun e => ht (of_decide_eq_true e)) (fun e => hf (of_decide_eq_false e))
theorem GOl_splitN {p : Prop} {inst : Decidable p} (hg : guardSlot ops o.guard = some (d, b)) (hc : look d l = some (.bool (!decide p))) (ht : ¬ p → GOl C ds ((d, .bool true) :: l) Es h ops (o :: os) K)
    (hf : p → GOl C ds ((d, .bool false) :: l) Es h ops (o :: os) K) : GOl C ds l Es h ops (o :: os) K := GOl_split hg hc (fun e => ht (by simpa using e)) (fun e => hf (by simpa using e))
theorem GOl_splitB {p : Bool} (hg : guardSlot ops o.guard = some (d, b)) (hc : look d l = some (.bool (!p))) (ht : p = false → GOl C ds ((d, .bool true) :: l) Es h ops (o :: os) K)
    (hf : p = true → GOl C ds ((d, .bool false) :: l) Es h ops (o :: os) K) : GOl C ds l Es h ops (o :: os) K := GOl_split hg hc (fun e => ht (by simpa using e)) (fun e => hf (by simpa using e))
end
end Go.Hw

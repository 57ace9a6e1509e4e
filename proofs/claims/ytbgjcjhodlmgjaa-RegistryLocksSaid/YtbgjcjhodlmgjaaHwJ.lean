/-
  Hw, part J: one operation's outcome by itself ('OpTo', 'OV'), for regions that draw.
-/
import Derived.Test.YtbgjcjhodlmgjaaHwI
set_option linter.unusedVariables false
namespace Go.Hw
open Go

section
variable {C : Ctx} {ds : List Deferred} {l : Sl} {Es : List Asn} {h : Ro} {K : List Item} {G : Value → List Asn → Ro → Prop}
  {d : Tmp} {ty : TypeId} {pos : String} {aft : Array Edge} {gd : Option (Nat × Bool)}

theorem OV_pv {o : Oper} {v : Value} (hv : pv C.ts l o.op = some v) : OV C l [] h o v := ⟨pv_defer hv, fun a w hs _ _ => pv_ok C.ok hs hv w⟩

/-- A variable that holds v, where nd and h say so. -/
def Lv (C : Ctx) (nd : List Asn) (h : Ro) (T : TypeId) (ad : Addr) (v : Value) : Prop := ∀ w, (∀ A ∈ nd, ∃ D, A.holds D (mem w)) → Le h (mem w) → (loadVar T ad).run C.P w = .ok v w

theorem Lv_cells {nd : List Asn} {T : TypeId} {t : Ty} {ad : Addr} {vs : List Value} {v : Value} (hT : tyOf T C.ts = some t) (hv : pvPart 0 t.size t.agg vs = some v)
    (hc : ∀ w, (∀ A ∈ nd, ∃ D, A.holds D (mem w)) → Le h (mem w) → ∀ j u, vs[j]? = some u → w.cell? (ad.add j) = some u) : Lv C nd h T ad v := by
  intro w hn hm
  have hcw := hc w hn hm
  simp only [loadVar, Sem.run_bind, C.ok.run_agg hT, Result.andThen_ok, Sem.run_ite]
  unfold pvPart at hv
  cases ha : t.agg with
  | true =>
    rw [ha] at hv
    simp only at hv
    split at hv
    · rename_i us hcut
      injection hv with hv; subst hv
      obtain ⟨h1, h2⟩ := cut_eq hcut
      simp only [List.drop_zero] at h1
      have hl : us.length = t.size := by rw [h1]; simp; omega
      have := run_loadCells_list (P := C.P) w ad us (fun j u hj => hcw j u (by rw [h1] at hj; rw [List.getElem?_take] at hj; split at hj; exact hj; cases hj))
      simp only [if_true, Sem.run_bind, C.ok.run_size hT, Result.andThen_ok]
      rw [← hl, this]; rfl
    · cases hv
  | false =>
    rw [ha] at hv
    simp only at hv
    have h1 := hcw 0 v (nth_eq hv)
    have e : ad.add 0 = ad := by simp [Addr.add]
    rw [e] at h1
    simp [h1]
theorem Lv_blk {T e : TypeId} {t : Ty} {b off : Nat} {cs : List Value} {v : Value} (hT : tyOf T C.ts = some t) (hv : pvPart off t.size t.agg cs = some v) : Lv C [Blk b e cs] h T ⟨b, off, none⟩ v :=
  Lv_cells hT (pvPart_shift hv) fun w hn hm j u hj => by
    obtain ⟨D, _, hb⟩ := hn _ (.head _)
    have hb' : w.heap[b]? = some (.cells cs.toArray e (0, 0)) := hb
    rw [add_off]
    simp only [World.cell?, hb']
    rw [List.getElem?_drop] at hj
    simpa using hj
theorem Lv_ro {T : TypeId} {t : Ty} {ad : Addr} {vs : List Value} {v : Value} (hT : tyOf T C.ts = some t) (hc : CellsAt h ad vs) (hv : pvPart 0 t.size t.agg vs = some v) : Lv C [] h T ad v :=
  Lv_cells hT hv fun w hn hm j u hj => by rw [cell?_mem]; exact cellR_le hm (hc j u hj)

theorem OV_load {t : TypeId} {x : Operand} {ad : Addr} {v : Value} {nd : List Asn} {dst : Option Tmp} (hx : evl l x = some (.pointer (some ad))) (hv : Lv C nd h t ad v) : OV C l nd h ⟨dst, .load t x, ty, pos, aft, gd⟩ v :=
  ⟨rfl, fun a w hs hn hm => by simp only [execOp, hs.eval hx, Instr.loadAt, Instr.sureAddr, Sem.run_bind, Sem.run_pure, Result.andThen_ok, hv w hn hm]⟩

theorem OV_idx {t e : TypeId} {x y : Operand} {ad : Addr} {n c j : Nat} {k : IntKind} {i : Int} {T E : Ty} {dst : Option Tmp} (hT : tyOf t C.ts = some T) (hTd : T.desc = .slice e) (hE : tyOf e C.ts = some E)
    (hx : evl l x = some (.slice (some ad) n c)) (hy : evl l y = some (.int k i)) (hi : i = (j : Int)) (hj : j < n) : OV C l [] h ⟨dst, .indexAddr t x y, ty, pos, aft, gd⟩ (.pointer (some (ad.add (j * E.size)))) :=
  ⟨rfl, fun a w hs _ _ => by
      obtain ⟨D0, hu, hb0⟩ := C.ok.run_und hT
      have hu := hu w
      rw [hTd] at hb0
      rw [blank_slice hb0] at hu
      subst hi
      have hb : (0 : Int) ≤ (j : Int) ∧ (j : Int) < (n : Int) := ⟨by omega, by omega⟩
      simp only [execOp, hs.eval hx, hs.eval hy, Instr.indexAt, asIntOf, Sem.run_bind, Sem.run_pure, Result.andThen_ok, hu, Sem.run_ite, hb, and_self, if_true, C.ok.run_size hE, Int.toNat_natCast]⟩
theorem OV_idxA {t e m : TypeId} {x y : Operand} {ad : Addr} {j : Nat} {k : IntKind} {i : Int} {T E : Ty} {dst : Option Tmp} (hT : tyOf t C.ts = some T) (hTd : T.desc = .array m e) (hE : tyOf e C.ts = some E)
    (hx : evl l x = some (.pointer (some ad))) (hy : evl l y = some (.int k i)) (hi : i = (j : Int)) (hj : j < m) : OV C l [] h ⟨dst, .indexAddr t x y, ty, pos, aft, gd⟩ (.pointer (some (ad.add (j * E.size)))) :=
  ⟨rfl, fun a w hs _ _ => by
      obtain ⟨D0, hu, hb0⟩ := C.ok.run_und hT
      have hu := hu w
      rw [hTd] at hb0
      rw [blank_array hb0] at hu
      subst hi
      have hb : (0 : Int) ≤ (j : Int) ∧ (j : Int) < (m : Int) := ⟨by omega, by omega⟩
      simp only [execOp, hs.eval hx, hs.eval hy, Instr.indexAt, Instr.sureAddr, asIntOf, Sem.run_bind, Sem.run_pure, Result.andThen_ok, hu, Sem.run_ite, hb, and_self, if_true, C.ok.run_size hE, Int.toNat_natCast]⟩

theorem OV_bin {op : BinOp} {t ty' : TypeId} {x y : Operand} {k : IntKind} {p q : Int} {v : Value} {T : Ty} {dst : Option Tmp}
    (hT : tyOf t C.ts = some T) (hx : evl l x = some (.int k p)) (hy : evl l y = some (.int k q)) (hv : pvBin T.desc op (.int k p) (.int k q) = some v) : OV C l [] h ⟨dst, .binOp op t x y ty', ty, pos, aft, gd⟩ v :=
  OV_pv (by simp only [pv, hT, hx, hy]; exact hv)
theorem OV_add {t ty' : TypeId} {x y : Operand} {p q : Int} {T : Ty} {dst : Option Tmp}
    (hT : tyOf t C.ts = some T) (hx : evl l x = some (.int .i64 p)) (hy : evl l y = some (.int .i64 q)) (hb : -9223372036854775808 ≤ p + q ∧ p + q ≤ 9223372036854775807) : OV C l [] h ⟨dst, .binOp .add t x y ty', ty, pos, aft, gd⟩ (.int .i64 (p + q)) :=
  OV_bin hT hx hy (by simp [pvBin, i64_in _ hb])
theorem OV_sub {t ty' : TypeId} {x y : Operand} {p q : Int} {T : Ty} {dst : Option Tmp}
    (hT : tyOf t C.ts = some T) (hx : evl l x = some (.int .i64 p)) (hy : evl l y = some (.int .i64 q)) (hb : -9223372036854775808 ≤ p - q ∧ p - q ≤ 9223372036854775807) : OV C l [] h ⟨dst, .binOp .sub t x y ty', ty, pos, aft, gd⟩ (.int .i64 (p - q)) :=
  OV_bin hT hx hy (by simp [pvBin, i64_in _ hb])

theorem OpTo_ov {o : Oper} {nd : List Asn} {v : Value} (hv : OV C l nd h o v) (hnd : AllIn Es nd) (g : G v Es h) : OpTo C l Es h o G :=
  fun a w hs hp => .inl ⟨v, w, Es, h, hv.2 a w hs (fun A hA => hp.get (hnd.ok A hA)) hp.ro, hp, g⟩

theorem OpTo_store {t e : TypeId} {x y : Operand} {b off : Nat} {v : Value} {cs cs' : List Value} {Es' : List Asn} {T : Ty} {ty : TypeId} {pos : String} {aft : Array Edge} {gd : Option (Nat × Bool)}
    (hT : tyOf t C.ts = some T) (hx : evl l x = some (.pointer (some ⟨b, off, none⟩))) (hy : evl l y = some v) (hR : Repl Es (Blk b e cs) (Blk b e cs') Es') (ho : over off (partL v) cs = some cs')
    (hl : Nat.beq (partL v).length T.size = true) (h1 : allOne (partL v) = true) (g : G undef Es' h) : OpTo C l Es h ⟨none, .store t x y, ty, pos, aft, gd⟩ G := by
  intro a w hs hp
  have hlen := Nat.eq_of_beq_eq_true hl
  obtain ⟨Ds, hown, hnod, hbd⟩ := hp.own
  obtain ⟨D, ⟨hD, hb⟩, hDn, hsub, _⟩ := hR.own hown hnod
  have hb' : w.heap[b]? = some (.cells cs.toArray e (0, 0)) := hb
  have hcs := over_eq ho
  by_cases hnil : partL v = []
  · -- nothing is stored
    have hc : cs' = cs := by
      have := hcs.1; rw [hnil] at this; simpa using this
    subst hc
    have hrun : (storeVar t ⟨b, off, none⟩ v).run C.P w = .ok () w := by
      have h0 : T.size = 0 := by rw [← hlen, hnil]; rfl
      simp only [storeVar, Sem.run_bind, C.ok.run_size hT, Result.andThen_ok, partL_ok, hnil, h0]
      rfl
    exact .inr (.inl ⟨w, Es', h, by simp only [execOp, hs.eval hx, hs.eval hy, Instr.storeAt, Instr.sureAddr, Sem.run_bind, Sem.run_pure, Result.andThen_ok, hrun], hp.asn hR fun D m hm => hm, g⟩)
  · have hle := hcs.2 hnil
    have hrun : (storeVar t ⟨b, off, none⟩ v).run C.P w = .ok () (w.setRow b cs'.toArray) := by
      have hst := run_storeCells_at (P := C.P) b off e (partL v) 0 cs.toArray w hb' (by simpa using hle) (allOne_ok h1)
      simp only [storeVar, Sem.run_bind, C.ok.run_size hT, Result.andThen_ok, partL_ok, List.size_toArray, hlen, ne_eq, not_true, if_false]
      rw [hst]
      simp only [Nat.add_zero, List.toList_toArray]
      rw [← hcs.1]
    have hlt : b < w.heap.size := (Array.getElem?_eq_some_iff.1 hb').1
    refine .inr (.inl ⟨w.setRow b cs'.toArray, Es', h, by simp only [execOp, hs.eval hx, hs.eval hy, Instr.storeAt, Instr.sureAddr, Sem.run_bind, Sem.run_pure, Result.andThen_ok, hrun], ?_, g⟩)
    refine hp.repl hR rfl rfl rfl (by simp [World.setRow]) fun D hA hDn hDl => ⟨D, ⟨hA.1, ?_⟩, hDn, fun q hq => ⟨.inl hq, by have := hDl q hq; simpa [World.setRow] using this⟩, fun i hi hni => ?_⟩
    · show (w.setRow b cs'.toArray).heap[b]? = _
      exact setRow_heap w b cs.toArray cs'.toArray e (0, 0) hb'
    · have : b ≠ i := fun e => hni (by rw [hA.1, e]; simp)
      simp [World.setRow, Array.getElem?_modify, this]

theorem OpTo_box {e : TypeId} {x : Operand} {v : Value}
    (hx : evl l x = some v) (g : ∀ b, G ((.pointer (some ⟨b, 0, none⟩))) (Blk b e (partL v) :: Es) h) : OpTo C l Es h ⟨some d, .box e x, ty, pos, aft, gd⟩ G :=
  fun a w hs hp =>
    .inl ⟨_, _, _, h, by simp only [execOp, hs.eval hx, Instr.box, newVar, newRow, newObj, Sem.run_bind, Sem.run_pure, Sem.run, Result.andThen_ok, partL_ok],
      hp.alloc (.cells (partL v).toArray e) (Blk w.heap.size e (partL v)) (Blk_holds _ _ _), g _⟩

theorem OpTo_alloc {e : TypeId} {T : Ty} (hT : tyOf e C.ts = some T) (g : ∀ b, G ((.pointer (some ⟨b, 0, none⟩))) (Blk b e (partL T.zero) :: Es) h) : OpTo C l Es h ⟨some d, .alloc e, ty, pos, aft, gd⟩ G :=
  fun a w hs hp =>
    .inl ⟨_, _, _, h, by simp only [execOp, Instr.alloc, C.ok.run_zero hT, newVar, newRow, newObj, Sem.run_bind, Sem.run_pure, Sem.run, Result.andThen_ok, partL_ok],
      hp.alloc (.cells (partL T.zero).toArray e) (Blk w.heap.size e (partL T.zero)) (Blk_holds _ _ _), g _⟩

theorem OpTo_buildSlice {t e n : Nat} {parts : Array (Nat × Operand)} {ps : List (Nat × Value)} {T E : Ty} {cs : List Value} (hT : tyOf t C.ts = some T) (hTd : T.desc = .slice e) (hE : tyOf e C.ts = some E)
    (hz : partL E.zero ≠ []) (hzl : (partL E.zero).length = E.size) (hn : Nat.ble (n * E.size) 16777216 = true) (hp : evlP l parts.toList = some ps) (hc : fillL (fun i => some (i * E.size, E.size)) ps (repl (partL E.zero) n) = some cs) (g : ∀ b, G ((.slice (some ⟨b, 0, none⟩) n n)) (Blk b e cs :: Es) h) : OpTo C l Es h ⟨some d, .buildSlice t n parts, ty, pos, aft, gd⟩ G :=
  fun a w hs hp' =>
    .inl ⟨.slice (some ⟨w.heap.size, 0, none⟩) n n, { w with heap := w.heap.push (.cells cs.toArray e) }, _, h, by
      obtain ⟨D0, hu, hb0⟩ := C.ok.run_und hT
      have hu := hu w
      rw [hTd] at hb0
      rw [blank_slice hb0] at hu
      have e1 := evlP_ok hs hp
      have q1 : (parts.map fun x => match x with | (i, x) => (i, a.eval x)) = ps.toArray := by rw [← e1]; apply Array.ext'; simp
      have hf := fillL_ok hc
      have hle : ¬ (n * E.size > 2 ^ 24) := by have := Nat.le_of_ble_eq_true hn; omega
      have hrow : ((Array.range (n * E.size)).map fun i => (partL E.zero).toArray[i % (partL E.zero).toArray.size]!) = (repl (partL E.zero) n).toArray := by
        rw [repl_eq, ← hzl]; exact zero_row _ _ hz
      have hpos : 0 < E.size := by rw [← hzl]; exact List.length_pos_iff.2 hz
      simp only [execOp, Instr.buildSlice, Sem.run_bind, hu, C.ok.run_size hE, Result.andThen_ok, Sem.run_ite, hle, if_false, q1]
      by_cases h0 : n * E.size = 0
      · have hn0 : n = 0 := by rcases Nat.mul_eq_zero.1 h0 with h1 | h1 <;> omega
        subst hn0
        simp only [Nat.zero_mul, if_true, Sem.run_pure, Result.andThen_ok]
        have hr0 : ((Array.range 0).map fun i => (#[] : Array Value)[i % (#[] : Array Value).size]!) = (repl (partL E.zero) 0).toArray := by simp [repl]
        rw [hr0, hf]
        rfl
      · simp only [h0, if_false, C.ok.run_zero hE, Sem.run_bind, Result.andThen_ok, Sem.run_pure, partL_ok, hrow, hf]
        rfl, hp'.alloc (.cells cs.toArray e) (Blk w.heap.size e cs) (Blk_holds _ _ _), g _⟩

theorem OpTo_call' {d : Option Tmp} {c : Operand} {xs : Array Operand} {tys : Array TypeId} {f : FuncId} {fs cs vs : List Value} {Es0 Fs : List Asn} {Post : Value → List Asn → Ro → Prop}
    (hc : evl l c = some (.func (.func f) fs.toArray cs.toArray)) (hxs : evlL l xs.toList = some vs) (hE : Es = Es0 ++ Fs) (hh : Has C.P f) (hf : Fn C.P f (fs ++ vs ++ cs).toArray Es0 h Post)
    (g : ∀ v Es' h', Le h h' → Post v Es' h' → G v (Es' ++ Fs) h') : OpTo C l Es h ⟨d, .call ⟨.value c, xs, tys⟩, ty, pos, aft, gd⟩ G := by
  refine OpTo_call (fun a w hs => ?_) hE hf g
  obtain ⟨fn, h1, h2, h3⟩ := hh
  have e1 := evlL_ok hs hxs
  have q1 : xs.map a.eval = vs.toArray := by rw [← e1]; apply Array.ext'; simp
  simp only [execOp, resolve, hs.eval hc, Deferred.ofValue, Sem.run_bind, Sem.run_pure, Result.andThen_ok, invoke, q1]
  rw [show fs.toArray ++ vs.toArray ++ cs.toArray = (fs ++ vs ++ cs).toArray by simp]
  exact run_callFunc h1 h2 h3 w

theorem OpTo_callF {d : Option Tmp} {xs : Array Operand} {tys : Array TypeId} {f : FuncId} {vs : List Value} {Es0 Fs : List Asn} {Post : Value → List Asn → Ro → Prop}
    (hxs : evlL l xs.toList = some vs) (hE : Es = Es0 ++ Fs) (hh : Has C.P f) (hf : Fn C.P f vs.toArray Es0 h Post)
    (g : ∀ v Es' h', Le h h' → Post v Es' h' → G v (Es' ++ Fs) h') : OpTo C l Es h ⟨d, .call ⟨.value (.func f), xs, tys⟩, ty, pos, aft, gd⟩ G :=
  OpTo_call' (f := f) (fs := []) (cs := []) rfl hxs hE hh (by simpa using hf) g

theorem OpTo_append {x y : Operand} {t e : TypeId} {v : Value} {n m c : Nat} {xs news : List Value} {ad : Addr} {T E : Ty} {Es' : Value → List Asn} (hT : tyOf t C.ts = some T) (hTd : T.desc = .slice e) (hE : tyOf e C.ts = some E)
    (hz : E.zero.cells.size = E.size) (hsz : 0 < E.size)
    (hx : evl l x = some v) (hy : evl l y = some (.slice (some ad) m c)) (hR : ∀ v', Repl Es (OwnS e E.size v n xs) (OwnS e E.size v' (n + m) (xs ++ news)) (Es' v'))
    (hnl : news.length = m * E.size) (hnews : ∀ w, Hp C.w0 C.X0 C.h0 Es h w → ∀ j u, news[j]? = some u → w.cell? (ad.add j) = some u) (h1 : ∀ u ∈ news, u.oneCell' = true)
    (h63 : n + m ≤ maxLen) (hbytes : (n + m) * E.bytes ≤ 140737488355328)
    (g : ∀ v', (v' = .slice none 0 0 ↔ v = .slice none 0 0 ∧ m = 0) → G (v') (Es' v') h) : OpTo C l Es h ⟨some d, .call ⟨.builtin .append, #[x, y], #[t, t]⟩, ty, pos, aft, gd⟩ G := by
  intro a w hs hp
  obtain ⟨i, hi, hi1, hi2, hi3⟩ := C.ok.info hE
  obtain ⟨D0, hu, hb0⟩ := C.ok.und hT
  rw [hTd] at hb0
  rw [blank_slice hb0] at hu
  obtain ⟨Ds, hown, hnod, hbd⟩ := hp.own
  obtain ⟨D, hA, hDn, hsub, _⟩ := (hR v).own hown hnod
  have hrow : w.ownsRow 0 e E.size v n xs := by
    obtain ⟨hl, hr⟩ := hA
    refine ⟨hl, hr.imp (fun ⟨h1, h2, _⟩ => ⟨h1, h2⟩) fun ⟨g, cap, cur, h1, h2, h3, h4, h5, h6, h7⟩ => ⟨g, cap, cur, h1, Nat.zero_le _, h3, h4, h5, h6, h7⟩⟩
  obtain ⟨v', w', hrun, hown', hgrow, hnil, hblk⟩ := run_append_own_at (P := C.P) w 0 t ty e i E.zero E.size E.bytes hu hi hi3 hi1 hi2 hz hsz v n xs hrow ad m c news hnl (hnews w hp) h1 h63 hbytes (Nat.zero_le _)
  refine .inl ⟨v', w', Es' v', h, ?_, ?_, g v' hnil⟩
  · simp only [execOp, resolve, invoke, builtin, Sem.run_bind, Sem.run_pure, Result.andThen_ok, List.map_toArray, List.map_cons, List.map_nil, hs.eval hx, hs.eval hy, hrun]
  · refine hp.repl (hR v') hgrow.os hgrow.tape hgrow.output hgrow.size fun D hA hDn hDl => ?_
    obtain ⟨hl, hr⟩ := hA
    obtain ⟨hl', hr'⟩ := hown'
    have hvD : ∀ i, i ∉ D → some i ≠ v.ownBlock := by
      intro i hi he
      rcases hr with ⟨rfl, _, _⟩ | ⟨g, cap, cur, rfl, rfl, _⟩
      · simp [Value.ownBlock] at he
      · simp only [Value.ownBlock, Option.some.injEq] at he; subst he; exact hi (by simp)
    rcases hr' with ⟨rfl, hn0⟩ | ⟨g, cap, cur, rfl, _, hh, hrest⟩
    · refine ⟨[], ⟨hl', .inl ⟨rfl, hn0, rfl⟩⟩, List.nodup_nil, by simp, fun i hi hni => hgrow.block i hi (hvD i hni)⟩
    · refine ⟨[g], ⟨hl', .inr ⟨g, cap, cur, rfl, rfl, hh, hrest⟩⟩, by simp, fun b hb => ?_, fun i hi hni => hgrow.block i hi (hvD i hni)⟩
      simp only [List.mem_singleton] at hb
      subst hb
      refine ⟨?_, (Array.getElem?_eq_some_iff.1 hh).1⟩
      rcases hblk with hb | hb
      · left
        rcases hr with ⟨rfl, _, _⟩ | ⟨g', cap', cur', rfl, rfl, _⟩
        · simp [Value.ownBlock] at hb
        · simp only [Value.ownBlock, Option.some.injEq] at hb; subst hb; simp
      · right
        simp only [Value.ownBlock, Option.some.injEq] at hb; omega

end
end Go.Hw

/-
  Hw, part M: contracts of one value; lists that the call owns.
-/
import Derived.Test.YtbgjcjhodlmgjaaHwL
set_option linter.unusedVariables false
namespace Go.Hw
open Go

theorem Hp.shrink {w0 w : World} {X0 : List Nat} {h0 h h' : Ro} {Es : List Asn} (H : Hp w0 X0 h0 Es h' w) (hl : Le h h') (h0l : Le h0 h) : Hp w0 X0 h0 Es h w :=
  ⟨H.os, H.tape, H.output, H.size, H.old, hl.trans H.ro, h0l, fun i o e => H.new i o (hl i o e), by
    obtain ⟨Ds, ho, hn, hb⟩ := H.own
    refine ⟨Ds, ho, hn, fun b h1 => ⟨?_, (hb b h1).2⟩⟩
    cases e : h b with
    | none => rfl
    | some o => have := hl b o e; rw [(hb b h1).1] at this; cases this⟩

/-- f comes back with v, and leaves nothing behind. -/
def valPost (v0 : Value) : Value → List Asn → Ro → Prop := fun u Es _ => u = v0 ∧ Es = []
def Val (P : Program) (f : FuncId) (args : Array Value) (h : Ro) (v : Value) : Prop := Fn P f args [] h (valPost v)
theorem Val_intro {P : Program} {ts : List Ty} (ok : TsOk P ts) {f : FuncId} {fn : Func} {c : Code} {args : List Value} {h0 : Ro} {v : Value}
    (hf : P.funcs[f]? = some fn) (hb : fn.body = some c) (hn : Nat.ble args.length fn.ntmps = true)
    (g : ∀ w0 X0, GO (mkC P ts ok fn w0 X0 h0 (valPost v)) [] (argS 0 args) [] h0 [.code c]) : Val P f args.toArray h0 v := Fn_intro ok hf hb hn g

section
variable {C : Ctx} {ds : List Deferred} {l : Sl} {Es : List Asn} {h : Ro} {K : List Item} {ops : Array Oper} {os : List Oper} {G : Value → List Asn → Ro → Prop}
  {ty : TypeId} {pos : String} {aft : Array Edge} {gd : Option (Nat × Bool)} {dst : Option Tmp}

theorem Hp.le0 {w0 w : World} {X0 : List Nat} {h0 h : Ro} {Es : List Asn} (H : Hp w0 X0 h0 Es h w) : Le h0 h := H.le

theorem OpTo_val {xs : Array Operand} {tys : Array TypeId} {f : FuncId} {vs : List Value} {v : Value}
    (hxs : evlL l xs.toList = some vs) (hh : Has C.P f) (hf : Val C.P f vs.toArray h v) (g : G v Es h) : OpTo C l Es h ⟨dst, .call ⟨.value (.func f), xs, tys⟩, ty, pos, aft, gd⟩ G := fun a w hs hp => by
  have := OpTo_callF (C := C) (l := l) (Es := Es) (h := h) (d := dst) (tys := tys) (ty := ty) (pos := pos) (aft := aft) (gd := gd) (Fs := Es) (G := fun v' Es' h' => v' = v ∧ Es' = Es ∧ Le h h') hxs (by rfl) hh hf
    (fun v' Es' h' hle ⟨e1, e2⟩ => ⟨e1, by rw [e2]; rfl, hle⟩) a w hs hp
  have fin : ∀ v' w' Es' h', Hp C.w0 C.X0 C.h0 Es' h' w' → (v' = v ∧ Es' = Es ∧ Le h h') → Hp C.w0 C.X0 C.h0 Es h w' ∧ G v' Es h := fun v' w' Es' h' H ⟨e1, e2, e3⟩ => by
    subst e1; subst e2; exact ⟨H.shrink e3 hp.le, g⟩
  rcases this with ⟨v', w', Es', h', hr, H, q⟩ | ⟨w', Es', h', hr, H, q⟩ | ⟨f, args, w1, hr, hc⟩ | ⟨r, f, tmps, assign, body, w1, n, hr, hc⟩
  · exact .inl ⟨v', w', Es, h, hr, fin _ _ _ _ H q⟩
  · exact .inr (.inl ⟨w', Es, h, hr, fin _ _ _ _ H q⟩)
  · exact .inr (.inr (.inl ⟨f, args, w1, hr, hc.mono fun _ _ ⟨v', he, Es', h', H, q⟩ => ⟨v', he, Es, h, fin _ _ _ _ H q⟩⟩))
  · exact .inr (.inr (.inr ⟨r, f, tmps, assign, body, w1, n, hr, hc.mono fun _ _ ⟨v', he, Es', h', H, q⟩ => ⟨v', he, Es, h, fin _ _ _ _ H q⟩⟩))

/-- A call of a function value. -/
theorem OpTo_valF {c : Operand} {xs : Array Operand} {tys : Array TypeId} {f : FuncId} {fs cs vs : List Value} {v : Value}
    (hc : evl l c = some (.func (.func f) fs.toArray cs.toArray)) (hxs : evlL l xs.toList = some vs) (hh : Has C.P f) (hf : Val C.P f (fs ++ vs ++ cs).toArray h v) (g : G v Es h) : OpTo C l Es h ⟨dst, .call ⟨.value c, xs, tys⟩, ty, pos, aft, gd⟩ G := fun a w hs hp => by
  have := OpTo_call' (C := C) (l := l) (Es := Es) (h := h) (d := dst) (tys := tys) (ty := ty) (pos := pos) (aft := aft) (gd := gd) (Fs := Es) (G := fun v' Es' h' => v' = v ∧ Es' = Es ∧ Le h h') hc hxs (by rfl) hh hf
    (fun v' Es' h' hle ⟨e1, e2⟩ => ⟨e1, by rw [e2]; rfl, hle⟩) a w hs hp
  have fin : ∀ v' w' Es' h', Hp C.w0 C.X0 C.h0 Es' h' w' → (v' = v ∧ Es' = Es ∧ Le h h') → Hp C.w0 C.X0 C.h0 Es h w' ∧ G v' Es h := fun v' w' Es' h' H ⟨e1, e2, e3⟩ => by
    subst e1; subst e2; exact ⟨H.shrink e3 hp.le, g⟩
  rcases this with ⟨v', w', Es', h', hr, H, q⟩ | ⟨w', Es', h', hr, H, q⟩ | ⟨f, args, w1, hr, hc⟩ | ⟨r, f, tmps, assign, body, w1, n, hr, hc⟩
  · exact .inl ⟨v', w', Es, h, hr, fin _ _ _ _ H q⟩
  · exact .inr (.inl ⟨w', Es, h, hr, fin _ _ _ _ H q⟩)
  · exact .inr (.inr (.inl ⟨f, args, w1, hr, hc.mono fun _ _ ⟨v', he, Es', h', H, q⟩ => ⟨v', he, Es, h, fin _ _ _ _ H q⟩⟩))
  · exact .inr (.inr (.inr ⟨r, f, tmps, assign, body, w1, n, hr, hc.mono fun _ _ ⟨v', he, Es', h', H, q⟩ => ⟨v', he, Es, h, fin _ _ _ _ H q⟩⟩))

/-- Any operation of a region in the order of its text. -/
theorem GOl_to {op : Op} (hg : wantedB ops l gd = some true) (hd : dstOk C.N dst = true) (hx : isDefer op = false)
    (g : OpTo C l Es h ⟨dst, op, ty, pos, aft, gd⟩ fun v Es' h' => GOl C ds (putS dst v l) Es' h' ops os K) : GOl C ds l Es h ops (⟨dst, op, ty, pos, aft, gd⟩ :: os) K :=
  GOl_op (o := ⟨dst, op, ty, pos, aft, gd⟩) hg hd hx g
theorem GOl_ov {op : Op} {d : Tmp} {nd : List Asn} {v : Value} (hg : wantedB ops l gd = some true) (hd : dstOk C.N (some d) = true) (hv : OV C l nd h ⟨some d, op, ty, pos, aft, gd⟩ v) (hnd : AllIn Es nd)
    (g : GOl C ds ((d, v) :: l) Es h ops os K) : GOl C ds l Es h ops (⟨some d, op, ty, pos, aft, gd⟩ :: os) K :=
  GOl_op (o := ⟨some d, op, ty, pos, aft, gd⟩) hg hd hv.1 (OpTo_ov hv hnd g)
end


/-! ### Rules for the driver -/
section
variable {C : Ctx} {ds : List Deferred} {l l0 l' : Sl} {Es : List Asn} {h : Ro} {K : List Item} {os : List Oper} {Vs : List Dn} {pl : List (Nat × Nat)}
  {d : Tmp} {ty : TypeId} {pos : String} {aft : Array Edge} {gd : Option (Nat × Bool)} {i : Nat}

theorem GP_loadB {t e : TypeId} {x : Operand} {b off : Nat} {cs : List Value} {T : Ty} {v : Value} (ho : lnth i os = some ⟨some d, .load t x, ty, pos, aft, gd⟩) (hc : canB Vs i ⟨some d, .load t x, ty, pos, aft, gd⟩ = true)
    (hl : pickF (opSlots os.toArray ⟨some d, .load t x, ty, pos, aft, gd⟩) (sl Vs l0) = some l')
    (hg : wantedB os.toArray l' gd = some true) (hx : evl l' x = some (.pointer (some ⟨b, off, none⟩))) (hm : Blk b e cs ∈ Es) (hT : tyOf t C.ts = some T) (hv : pvPart off T.size T.agg cs = some v)
    (g : GDp pl C ds l0 (⟨i, some d, v, [Blk b e cs], true⟩ :: Vs) Es h os.toArray K) : GDp ((i, 0) :: pl) C ds l0 Vs Es h os.toArray K :=
  GP_ov ho hc hl hg (OV_load hx (Lv_blk hT hv)) ⟨hm, trivial⟩ g

theorem GP_add {t ty' : TypeId} {x y : Operand} {p q : Int} {T : Ty} (ho : lnth i os = some ⟨some d, .binOp .add t x y ty', ty, pos, aft, gd⟩) (hc : canB Vs i ⟨some d, .binOp .add t x y ty', ty, pos, aft, gd⟩ = true)
    (hl : pickF (opSlots os.toArray ⟨some d, .binOp .add t x y ty', ty, pos, aft, gd⟩) (sl Vs l0) = some l') (hg : wantedB os.toArray l' gd = some true)
    (hT : tyOf t C.ts = some T) (hx : evl l' x = some (.int .i64 p)) (hy : evl l' y = some (.int .i64 q)) (hb : -9223372036854775808 ≤ p + q ∧ p + q ≤ 9223372036854775807)
    (g : GDp pl C ds l0 (⟨i, some d, .int .i64 (p + q), [], true⟩ :: Vs) Es h os.toArray K) : GDp ((i, 0) :: pl) C ds l0 Vs Es h os.toArray K := GP_ov (nd := []) ho hc hl hg (OV_add hT hx hy hb) trivial g
theorem GP_sub {t ty' : TypeId} {x y : Operand} {p q : Int} {T : Ty} (ho : lnth i os = some ⟨some d, .binOp .sub t x y ty', ty, pos, aft, gd⟩) (hc : canB Vs i ⟨some d, .binOp .sub t x y ty', ty, pos, aft, gd⟩ = true)
    (hl : pickF (opSlots os.toArray ⟨some d, .binOp .sub t x y ty', ty, pos, aft, gd⟩) (sl Vs l0) = some l') (hg : wantedB os.toArray l' gd = some true)
    (hT : tyOf t C.ts = some T) (hx : evl l' x = some (.int .i64 p)) (hy : evl l' y = some (.int .i64 q)) (hb : -9223372036854775808 ≤ p - q ∧ p - q ≤ 9223372036854775807)
    (g : GDp pl C ds l0 (⟨i, some d, .int .i64 (p - q), [], true⟩ :: Vs) Es h os.toArray K) : GDp ((i, 0) :: pl) C ds l0 Vs Es h os.toArray K := GP_ov (nd := []) ho hc hl hg (OV_sub hT hx hy hb) trivial g

theorem GO_dropAll (g : GO C ds l [] h K) : GO C ds l Es h K := by
  induction Es with
  | nil => exact g
  | cons A Es ih => exact GO_drop Take.here ih

/-- The way out of a call that comes back with v0 and leaves nothing behind. -/
theorem GO_retV {fn : Func} {v0 : Value} {rs : List ResultVar} {vs : List Value} (hQ : C.Q = fnQ C.P fn C.w0 C.X0 C.h0 (valPost v0)) (hr : fn.results = rs.toArray) (hv : ResV C l Es h rs vs) (hP : resVal vs = v0) :
    GO C [] l Es h (.code .ret :: K) := fun a w s => todo_ret (by
  rw [hQ]
  show LeavesInM _ _ _ _ _ _ a.defers _ _
  rw [s.defers]
  refine ⟨_, results_ok hr s.slots s.hp hv, _, rfl, [], h, ⟨hP, rfl⟩, ?_⟩
  have : ∀ {Es : List Asn}, Hp C.w0 C.X0 C.h0 Es h w → Hp C.w0 C.X0 C.h0 [] h w := by
    intro Es
    induction Es with
    | nil => exact id
    | cons A Es ih => exact fun H => ih (H.drop Take.here)
  exact this s.hp)
theorem GO_retV1 {fn : Func} {v0 v : Value} {t : Nat} (hQ : C.Q = fnQ C.P fn C.w0 C.X0 C.h0 (valPost v0)) (hr : fn.results = #[.tmp t]) (hv : look t l = some v) (hP : v = v0) : GO C [] l Es h (.code .ret :: K) :=
  GO_retV (rs := [.tmp t]) (vs := [v]) hQ hr ⟨hv, trivial⟩ hP
theorem GO_retV2 {fn : Func} {v0 v u : Value} {t s : Nat} (hQ : C.Q = fnQ C.P fn C.w0 C.X0 C.h0 (valPost v0)) (hr : fn.results = #[.tmp t, .tmp s]) (hv : look t l = some v) (hu : look s l = some u) (hP : .tuple #[v, u] = v0) : GO C [] l Es h (.code .ret :: K) :=
  GO_retV (rs := [.tmp t, .tmp s]) (vs := [v, u]) hQ hr ⟨hv, hu, trivial⟩ hP
theorem GO_retV3 {fn : Func} {v0 v u x : Value} {t s r : Nat} (hQ : C.Q = fnQ C.P fn C.w0 C.X0 C.h0 (valPost v0)) (hr : fn.results = #[.tmp t, .tmp s, .tmp r]) (hv : look t l = some v) (hu : look s l = some u) (hx : look r l = some x) (hP : .tuple #[v, u, x] = v0) : GO C [] l Es h (.code .ret :: K) :=
  GO_retV (rs := [.tmp t, .tmp s, .tmp r]) (vs := [v, u, x]) hQ hr ⟨hv, hu, hx, trivial⟩ hP
theorem GO_retC1 {fn : Func} {v0 v : Value} {t T b off e : Nat} {cs : List Value} {Ty : Ty} (hQ : C.Q = fnQ C.P fn C.w0 C.X0 C.h0 (valPost v0)) (hr : fn.results = #[.cell t T]) (ht : look t l = some (.pointer (some ⟨b, off, none⟩))) (hm : Blk b e cs ∈ Es) (hT : tyOf T C.ts = some Ty)
    (hv : pvPart off Ty.size Ty.agg cs = some v) (hP : v = v0) : GO C [] l Es h (.code .ret :: K) :=
  GO_retV (rs := [.cell t T]) (vs := [v]) hQ hr ⟨⟨_, ht, Ld_blk hT hm hv⟩, trivial⟩ hP
theorem GO_retC2 {fn : Func} {v0 v u : Value} {t T b off e s : Nat} {cs : List Value} {Ty : Ty} (hQ : C.Q = fnQ C.P fn C.w0 C.X0 C.h0 (valPost v0)) (hr : fn.results = #[.cell t T, .tmp s]) (ht : look t l = some (.pointer (some ⟨b, off, none⟩))) (hm : Blk b e cs ∈ Es) (hT : tyOf T C.ts = some Ty)
    (hv : pvPart off Ty.size Ty.agg cs = some v) (hu : look s l = some u) (hP : .tuple #[v, u] = v0) : GO C [] l Es h (.code .ret :: K) :=
  GO_retV (rs := [.cell t T, .tmp s]) (vs := [v, u]) hQ hr ⟨⟨_, ht, Ld_blk hT hm hv⟩, hu, trivial⟩ hP
end

/-! ### Lists that the call owns -/
def OwnL {α : Type} (e sz : Nat) (enc : α → List Value) (v : Value) (l : List α) : Asn := OwnS e sz v l.length (l.flatMap enc)
end Go.Hw

/-
  Hw, part Q: contracts whose answer lies in memory that is only read from then on ('Res').
-/
import Derived.Test.YtbgjcjhodlmgjaaHwP
set_option linter.unusedVariables false
namespace Go.Hw
open Go

def resPost (R : Value → Ro → Prop) : Value → List Asn → Ro → Prop := fun u Es h => Es = [] ∧ R u h
/-- f comes back; of its value and of what may be read then R holds; nothing is left that is owned. -/
def Res (P : Program) (f : FuncId) (args : Array Value) (h : Ro) (R : Value → Ro → Prop) : Prop := Fn P f args [] h (resPost R)

theorem Res.mono {P : Program} {f : FuncId} {args : Array Value} {h : Ro} {R R' : Value → Ro → Prop} (r : Res P f args h R) (hr : ∀ v h', Le h h' → R v h' → R' v h') : Res P f args h R' :=
  Fn.mono r fun v Es h' hl ⟨h1, h2⟩ => ⟨h1, hr v h' hl h2⟩
theorem Res_intro {P : Program} {ts : List Ty} (ok : TsOk P ts) {f : FuncId} {fn : Func} {c : Code} {args : List Value} {h0 : Ro} {R : Value → Ro → Prop}
    (hf : P.funcs[f]? = some fn) (hb : fn.body = some c) (hn : Nat.ble args.length fn.ntmps = true)
    (g : ∀ w0 X0, GO (mkC P ts ok fn w0 X0 h0 (resPost R)) [] (argS 0 args) [] h0 [.code c]) : Res P f args.toArray h0 R := Fn_intro ok hf hb hn g
theorem Res_of_val {P : Program} {f : FuncId} {args : Array Value} {h : Ro} {v : Value} (r : Val P f args h v) : Res P f args h fun u _ => u = v := Fn.mono r fun u Es h' hl ⟨h1, h2⟩ => ⟨h2, h1⟩
theorem Val_of_res {P : Program} {f : FuncId} {args : Array Value} {h : Ro} {v : Value} (r : Res P f args h fun u _ => u = v) : Val P f args h v := Fn.mono r fun u Es h' hl ⟨h1, h2⟩ => ⟨h2, h1⟩

section
variable {C : Ctx} {ds : List Deferred} {l : Sl} {Es Fs : List Asn} {h : Ro} {K : List Item} {G : Value → List Asn → Ro → Prop} {ty : TypeId} {pos : String} {aft : Array Edge} {gd : Option (Nat × Bool)} {dst : Option Tmp}
theorem OpTo_res {xs : Array Operand} {tys : Array TypeId} {f : FuncId} {vs : List Value} {R : Value → Ro → Prop}
    (hxs : evlL l xs.toList = some vs) (hh : Has C.P f) (hf : Res C.P f vs.toArray h R) (g : ∀ v h', Le h h' → R v h' → G v Es h') : OpTo C l Es h ⟨dst, .call ⟨.value (.func f), xs, tys⟩, ty, pos, aft, gd⟩ G :=
  OpTo_callF (Fs := Es) hxs (by rfl) hh hf fun v Es' h' hle ⟨e1, e2⟩ => by subst e1; exact g v h' hle e2
theorem OpTo_resF {c : Operand} {xs : Array Operand} {tys : Array TypeId} {f : FuncId} {fs cs vs : List Value} {R : Value → Ro → Prop}
    (hc : evl l c = some (.func (.func f) fs.toArray cs.toArray)) (hxs : evlL l xs.toList = some vs) (hh : Has C.P f) (hf : Res C.P f (fs ++ vs ++ cs).toArray h R) (g : ∀ v h', Le h h' → R v h' → G v Es h') : OpTo C l Es h ⟨dst, .call ⟨.value c, xs, tys⟩, ty, pos, aft, gd⟩ G :=
  OpTo_call' (Es0 := []) (Fs := Es) hc hxs (by rfl) hh hf fun v Es' h' hle ⟨e1, e2⟩ => by subst e1; exact g v h' hle e2

variable {fn : Func} {R : Value → Ro → Prop}
theorem GO_retR {rs : List ResultVar} {vs : List Value} (hQ : C.Q = fnQ C.P fn C.w0 C.X0 C.h0 (resPost R)) (hr : fn.results = rs.toArray) (hv : ResV C l Es h rs vs) (hP : R (resVal vs) h) :
    GO C [] l Es h (.code .ret :: K) := GO_retS hQ hr hv (List.nil_sublist _) ⟨rfl, hP⟩
theorem GO_retR1 {v : Value} {t : Nat} (hQ : C.Q = fnQ C.P fn C.w0 C.X0 C.h0 (resPost R)) (hr : fn.results = #[.tmp t]) (hv : look t l = some v) (hP : R v h) : GO C [] l Es h (.code .ret :: K) :=
  GO_retR (rs := [.tmp t]) (vs := [v]) hQ hr ⟨hv, trivial⟩ hP
theorem GO_retR2 {v u : Value} {t s : Nat} (hQ : C.Q = fnQ C.P fn C.w0 C.X0 C.h0 (resPost R)) (hr : fn.results = #[.tmp t, .tmp s]) (hv : look t l = some v) (hu : look s l = some u) (hP : R (.tuple #[v, u]) h) : GO C [] l Es h (.code .ret :: K) :=
  GO_retR (rs := [.tmp t, .tmp s]) (vs := [v, u]) hQ hr ⟨hv, hu, trivial⟩ hP
theorem GO_retR3 {v u x : Value} {t s r : Nat} (hQ : C.Q = fnQ C.P fn C.w0 C.X0 C.h0 (resPost R)) (hr : fn.results = #[.tmp t, .tmp s, .tmp r]) (hv : look t l = some v) (hu : look s l = some u) (hx : look r l = some x) (hP : R (.tuple #[v, u, x]) h) : GO C [] l Es h (.code .ret :: K) :=
  GO_retR (rs := [.tmp t, .tmp s, .tmp r]) (vs := [v, u, x]) hQ hr ⟨hv, hu, hx, trivial⟩ hP
theorem GO_retRC1 {v : Value} {t T b off e : Nat} {cs : List Value} {Ty : Ty} (hQ : C.Q = fnQ C.P fn C.w0 C.X0 C.h0 (resPost R)) (hr : fn.results = #[.cell t T]) (ht : look t l = some (.pointer (some ⟨b, off, none⟩))) (hm : Blk b e cs ∈ Es) (hT : tyOf T C.ts = some Ty)
    (hv : pvPart off Ty.size Ty.agg cs = some v) (hP : R v h) : GO C [] l Es h (.code .ret :: K) :=
  GO_retR (rs := [.cell t T]) (vs := [v]) hQ hr ⟨⟨_, ht, Ld_blk hT hm hv⟩, trivial⟩ hP
theorem GO_retRC2 {v u : Value} {t T b off e s : Nat} {cs : List Value} {Ty : Ty} (hQ : C.Q = fnQ C.P fn C.w0 C.X0 C.h0 (resPost R)) (hr : fn.results = #[.cell t T, .tmp s]) (ht : look t l = some (.pointer (some ⟨b, off, none⟩))) (hm : Blk b e cs ∈ Es) (hT : tyOf T C.ts = some Ty)
    (hv : pvPart off Ty.size Ty.agg cs = some v) (hu : look s l = some u) (hP : R (.tuple #[v, u]) h) : GO C [] l Es h (.code .ret :: K) :=
  GO_retR (rs := [.cell t T, .tmp s]) (vs := [v, u]) hQ hr ⟨⟨_, ht, Ld_blk hT hm hv⟩, hu, trivial⟩ hP
theorem GO_retRC3 {v u x : Value} {t T b off e s r : Nat} {cs : List Value} {Ty : Ty} (hQ : C.Q = fnQ C.P fn C.w0 C.X0 C.h0 (resPost R)) (hr : fn.results = #[.cell t T, .tmp s, .tmp r]) (ht : look t l = some (.pointer (some ⟨b, off, none⟩))) (hm : Blk b e cs ∈ Es) (hT : tyOf T C.ts = some Ty)
    (hv : pvPart off Ty.size Ty.agg cs = some v) (hu : look s l = some u) (hx : look r l = some x) (hP : R (.tuple #[v, u, x]) h) : GO C [] l Es h (.code .ret :: K) :=
  GO_retR (rs := [.cell t T, .tmp s, .tmp r]) (vs := [v, u, x]) hQ hr ⟨⟨_, ht, Ld_blk hT hm hv⟩, hu, hx, trivial⟩ hP

/-- An owned slice let go. -/
theorem GO_relS {α : Type} {enc : α → List Value} {e sz : Nat} {v : Value} {n : Nat} {xs : List α} {Es' : List Asn} (hl : ∀ x, (enc x).length = sz) (hn : xs.length = n) (hT : Take Es (OwnS e sz v n (xs.flatMap enc)) Es')
    (g : ∀ A c h', Le h h' → v = .slice A n c → SlOf enc sz h' A n xs → GO C ds l Es' h' K) : GO C ds l Es h K :=
  GO_release hT fun D h' hle hA => by
    obtain ⟨A, c, e1, e2⟩ := OwnS_free hl hn hA
    exact g A c h' hle e1 e2
/-- An owned block let go. -/
theorem GO_relB {b : Nat} {e : TypeId} {cs : List Value} {Es' : List Asn} (hT : Take Es (Blk b e cs) Es') (g : ∀ h', Le h h' → CellsAt h' ⟨b, 0, none⟩ cs → GO C ds l Es' h' K) : GO C ds l Es h K :=
  GO_release hT fun D h' hle hA => g h' hle (blk_at hA.2)
end

/-! ### What a call is handed out of what is owned -/
theorem Take.perm {Es Fs : List Asn} {A : Asn} (h : Take Es A Fs) : Es.Perm (A :: Fs) := by
  obtain ⟨p, q, rfl, rfl⟩ := h; exact List.perm_middle
def Takes : List Asn → List Asn → List Asn → Prop
  | Es, [], Fs => Es = Fs
  | Es, A :: r, Fs => ∃ M, Take Es A M ∧ Takes M r Fs
theorem Takes_nil {Es : List Asn} : Takes Es [] Es := rfl
theorem Takes_cons {Es M r Fs : List Asn} {A : Asn} (h : Take Es A M) (k : Takes M r Fs) : Takes Es (A :: r) Fs := ⟨M, h, k⟩
theorem Takes.perm : ∀ {Es Es0 Fs : List Asn}, Takes Es Es0 Fs → Es.Perm (Es0 ++ Fs)
  | _, [], _, h => by cases h; exact .refl _
  | _, A :: r, _, ⟨M, h, k⟩ => h.perm.trans (k.perm.cons A)

section
variable {C : Ctx} {l : Sl} {Es Fs : List Asn} {h : Ro} {G : Value → List Asn → Ro → Prop} {ty : TypeId} {pos : String} {aft : Array Edge} {gd : Option (Nat × Bool)} {dst : Option Tmp}
theorem OpTo_callP {xs : Array Operand} {tys : Array TypeId} {f : FuncId} {vs : List Value} {Es0 : List Asn} {Post : Value → List Asn → Ro → Prop}
    (hxs : evlL l xs.toList = some vs) (hh : Has C.P f) (hf : Fn C.P f vs.toArray Es0 h Post) (hp : Takes Es Es0 Fs)
    (g : ∀ v Es' h', Le h h' → Post v Es' h' → G v (Es' ++ Fs) h') : OpTo C l Es h ⟨dst, .call ⟨.value (.func f), xs, tys⟩, ty, pos, aft, gd⟩ G :=
  OpTo_perm hp.perm (OpTo_callF (Fs := Fs) hxs rfl hh hf g)
/-- An operation's outcome, whatever the order in which what is owned is told. -/
theorem OpTo_imp {o : Oper} {G' : Value → List Asn → Ro → Prop} (g : OpTo C l Es h o G') (hg : ∀ v Es' h' (w' : World), Hp C.w0 C.X0 C.h0 Es' h' w' → G' v Es' h' → ∃ Es'' h'', Hp C.w0 C.X0 C.h0 Es'' h'' w' ∧ G v Es'' h'') : OpTo C l Es h o G := fun a w hs H => by
  rcases g a w hs H with ⟨v, w', Es', h', hr, hp, hG⟩ | ⟨w', Es', h', hr, hp, hG⟩ | ⟨f, args, w1, hr, hc⟩ | ⟨r, f, tmps, assign, body, w1, n, hr, hc⟩
  · obtain ⟨E2, h2, q1, q2⟩ := hg _ _ _ w' hp hG; exact .inl ⟨v, w', E2, h2, hr, q1, q2⟩
  · obtain ⟨E2, h2, q1, q2⟩ := hg _ _ _ w' hp hG; exact .inr (.inl ⟨w', E2, h2, hr, q1, q2⟩)
  · exact .inr (.inr (.inl ⟨f, args, w1, hr, hc.mono fun _ w' ⟨v, he, Es', h', hp', hG⟩ => by
      obtain ⟨E2, h2, q1, q2⟩ := hg _ _ _ w' hp' hG; exact ⟨v, he, E2, h2, q1, q2⟩⟩))
  · exact .inr (.inr (.inr ⟨r, f, tmps, assign, body, w1, n, hr, hc.mono fun _ w' ⟨v, he, Es', h', hp', hG⟩ => by
      obtain ⟨E2, h2, q1, q2⟩ := hg _ _ _ w' hp' hG; exact ⟨v, he, E2, h2, q1, q2⟩⟩))
/-- A call that keeps what it was handed. -/
theorem OpTo_valP {xs : Array Operand} {tys : Array TypeId} {f : FuncId} {vs : List Value} {v : Value} {Es0 : List Asn}
    (hxs : evlL l xs.toList = some vs) (hh : Has C.P f) (hf : ValE C.P f vs.toArray Es0 h v) (hp : Takes Es Es0 Fs) (g : G v Es h) : OpTo C l Es h ⟨dst, .call ⟨.value (.func f), xs, tys⟩, ty, pos, aft, gd⟩ G :=
  OpTo_imp (G' := fun v' Es' h' => v' = v ∧ Es' = Es0 ++ Fs ∧ h' = h) (OpTo_perm hp.perm (OpTo_valE (Fs := Fs) rfl hxs hh hf ⟨rfl, rfl, rfl⟩)) fun v' Es' h' w' H ⟨e1, e2, e3⟩ => by
    subst e1; subst e2; subst e3
    exact ⟨Es, h', H.perm hp.perm.symm, g⟩
end

section
variable {C : Ctx} {l : Sl} {Es Fs : List Asn} {h : Ro} {G : Value → List Asn → Ro → Prop} {ty : TypeId} {pos : String} {aft : Array Edge} {gd : Option (Nat × Bool)} {d : Tmp}
theorem OwnS_form {e sz : Nat} {v : Value} {n : Nat} {xs : List Value} {D : List Nat} {m : Ro} (H : (OwnS e sz v n xs).holds D m) : ∃ A c, v = .slice A n c := by
  rcases H.2 with ⟨h2, h3, _⟩ | ⟨b, cap, cur, h2, _⟩
  · exact ⟨none, 0, by rw [h2, h3]⟩
  · exact ⟨_, _, h2⟩
/-- append, the grown slice's value told as a slice. -/
theorem OpTo_appendQ {x y : Operand} {t e : TypeId} {v : Value} {n m c : Nat} {xs cs : List Value} {ad : Addr} {T E : Ty} {Es' : Value → List Asn} (hT : tyOf t C.ts = some T) (hTd : T.desc = .slice e) (hE : tyOf e C.ts = some E)
    (hz : E.zero.cells.size = E.size) (hsz : Nat.blt 0 E.size = true)
    (hx : evl l x = some v) (hy : evl l y = some (.slice (some ad) m c)) (hm : CellsAt h ad cs) (hR : ∀ v', Repl Es (OwnS e E.size v n xs) (OwnS e E.size v' (n + m) (xs ++ cs)) (Es' v'))
    (hnl : cs.length = m * E.size) (h1 : ∀ u ∈ cs, u.oneCell' = true) (h63 : n + m ≤ 1000000000) (hby : Nat.ble E.bytes 100000 = true)
    (g : ∀ A' c', G (.slice A' (n + m) c') (Es' (.slice A' (n + m) c')) h) : OpTo C l Es h ⟨some d, .call ⟨.builtin .append, #[x, y], #[t, t]⟩, ty, pos, aft, gd⟩ G :=
  OpTo_imp (G' := fun v Es1 h1 => Es1 = Es' v ∧ h1 = h) (OpTo_appendR hT hTd hE hz hsz hx hy hm hR hnl h1 h63 hby fun v' => ⟨rfl, rfl⟩) fun v Es1 h1 w' H ⟨e1, e2⟩ => by
    subst e1; subst e2
    obtain ⟨p, q, _, hq⟩ := hR v
    have hm : OwnS e E.size v (n + m) (xs ++ cs) ∈ Es' v := by rw [hq]; simp
    obtain ⟨D, hA⟩ := H.get hm
    obtain ⟨A, c, rfl⟩ := OwnS_form hA
    exact ⟨_, _, H, g A c⟩
end

section
variable {C : Ctx} {ds : List Deferred} {l : Sl} {Es Fs : List Asn} {h : Ro} {K : List Item} {G : Value → List Asn → Ro → Prop}
/-- A nil slice, as an owned one. -/
theorem Hp.nilS {w0 w : World} {X0 : List Nat} {h0 : Ro} {e sz : Nat} (H : Hp w0 X0 h0 Es h w) : Hp w0 X0 h0 (OwnS e sz (.slice none 0 0) 0 [] :: Es) h w := by
  obtain ⟨Ds, ho, hn, hb⟩ := H.own
  exact ⟨H.os, H.tape, H.output, H.size, H.old, H.ro, H.le, H.new, [] :: Ds, ⟨⟨by simp, .inl ⟨rfl, rfl, rfl⟩⟩, ho⟩, by simpa using hn, by simpa using hb⟩
theorem GO_nilS (e sz : Nat) (g : GO C ds l (OwnS e sz (.slice none 0 0) 0 [] :: Es) h K) : GO C ds l Es h K := fun a w s => g a w ⟨s.size, s.defers, s.slots, s.hp.nilS⟩
theorem OpTo_nilS (e sz : Nat) {o : Oper} (g : OpTo C l (OwnS e sz (.slice none 0 0) 0 [] :: Es) h o G) : OpTo C l Es h o G := fun a w hs H => g a w hs H.nilS
end

section
variable {C : Ctx} {ds : List Deferred} {l l' : Sl} {Es Es' Fs : List Asn} {h : Ro} {K : List Item}
theorem Hp.takes {w0 w : World} {X0 : List Nat} {h0 : Ro} (H : Hp w0 X0 h0 Es h w) (hT : Takes Es Es' Fs) : Hp w0 X0 h0 Es' h w := (H.perm hT.perm).sub (List.sublist_append_left _ _)
/-- A state told anew: fewer slots, less of what is owned, in another order. -/
theorem GO_fit (hs : Slots l' l) (hT : Takes Es Es' Fs) (g : GO C ds l' Es' h K) : GO C ds l Es h K := fun a w s => g a w ⟨s.size, s.defers, s.slots.sub hs.ok, s.hp.takes hT⟩
theorem GO_take (hT : Takes Es Es' Fs) (g : GO C ds l Es' h K) : GO C ds l Es h K := fun a w s => g a w ⟨s.size, s.defers, s.slots, s.hp.takes hT⟩
/-- A loop; what is owned at its head is taken out of what is owned now. -/
theorem GO_loopT {c : Code} {X : Type} (I : X → Prop) (μ : X → Nat) (S : X → Sl) (E : X → List Asn) (H : X → Ro) (x0 : X)
    (hi : I x0) (hs : Slots (S x0) l) (hT : Takes Es (E x0) Fs) (hH : H x0 = h)
    (round : ∀ x, I x → (∀ y, I y → μ y < μ x → GO C ds (S y) (E y) (H y) (.inLoop c :: K)) → GO C ds (S x) (E x) (H x) (.code c :: .inLoop c :: K)) :
    GO C ds l Es h (.code (.loop c) :: K) := GO_take hT (GO_while I μ S E H x0 hi hs rfl hH round)
end
end Go.Hw

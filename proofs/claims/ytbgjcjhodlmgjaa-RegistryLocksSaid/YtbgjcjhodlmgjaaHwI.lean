/-
  Hw, part I: the rules of a drawn region, in the form that a driver uses.
-/
import Derived.Test.YtbgjcjhodlmgjaaHwH
set_option linter.unusedVariables false
namespace Go.Hw
open Go

def lnth {α : Type} : Nat → List α → Option α
  | _, [] => none
  | 0, x :: _ => some x
  | n + 1, _ :: r => lnth n r
theorem lnth_eq {α : Type} : ∀ {n : Nat} {l : List α} {x : α}, lnth n l = some x → l[n]? = some x
  | 0, _ :: _, _, h => by simpa [lnth] using h
  | n + 1, _ :: r, _, h => by simpa using lnth_eq (n := n) (l := r) (by simpa [lnth] using h)

def pickF : List Nat → Sl → Option Sl
  | [], _ => some []
  | s :: r, l => match pickF r l with
    | some t => match look s l with
      | some v => some ((s, v) :: t)
      | none => some t
    | none => none
theorem pickF_eq : ∀ {ss : List Nat} {l l' : Sl}, pickF ss l = some l' → pickS ss l = l'
  | [], _, _, h => by injection h
  | s :: r, l, l', h => by
    simp only [pickF] at h
    cases hr : pickF r l with
    | none => rw [hr] at h; cases h
    | some t =>
      rw [hr] at h
      have ih := pickF_eq hr
      simp only [pickS]
      cases hv : look s l with
      | none => rw [hv] at h; simp only [Option.some.injEq] at h; rw [ih, ← h]
      | some v => rw [hv] at h; simp only [Option.some.injEq] at h; rw [← h, ih]

def slF : List Dn → Sl → Option Sl
  | [], l0 => some l0
  | ⟨_, d, v, _, _⟩ :: r, l0 => match slF r l0 with
    | some t => match d with
      | some d => some ((d, v) :: t)
      | none => some t
    | none => none
theorem slF_eq : ∀ {Vs : List Dn} {l0 l : Sl}, slF Vs l0 = some l → sl Vs l0 = l
  | [], _, _, h => by injection h
  | ⟨_, d, v, _, _⟩ :: r, l0, l, h => by
    simp only [slF] at h
    cases hr : slF r l0 with
    | none => rw [hr] at h; cases h
    | some t =>
      rw [hr] at h
      have ih := slF_eq hr
      cases d with
      | none => simp only [Option.some.injEq] at h; rw [← h, ← ih]; rfl
      | some d => simp only [Option.some.injEq] at h; rw [← h, ← ih]; rfl

/-- 'GD' with a plan for the driver: (i, 0) promises operation i, (i, 1) meets it, (i, 2), (m, j) meets i or j, with the next m items for i and the rest for j. -/
def GDp (_ : List (Nat × Nat)) (C : Ctx) (ds : List Deferred) (l0 : Sl) (Vs : List Dn) (Es : List Asn) (h : Ro) (ops : Array Oper) (K : List Item) : Prop := GD C ds l0 Vs Es h ops K

def noNd : List Dn → Bool
  | [] => true
  | ⟨_, _, _, [], _⟩ :: r => noNd r
  | _ :: _ => false
theorem NdOk_no {ps : List Nat} {Es : List Asn} : ∀ {Vs : List Dn}, noNd Vs = true → NdOk ps Es Vs
  | [], _ => trivial
  | ⟨i, d, v, [], p⟩ :: r, h => ⟨by cases p <;> simp [AllIn] , NdOk_no (Vs := r) h⟩
/-- What pending promises need. -/
def needF (ps : List Nat) : List Dn → List Asn
  | [] => []
  | ⟨i, _, _, nd, p⟩ :: r => bif p && !ps.contains i then nd ++ needF ps r else needF ps r
theorem AllIn_append {Es : List Asn} : ∀ {a b : List Asn}, AllIn Es (a ++ b) → AllIn Es a ∧ AllIn Es b
  | [], _, h => ⟨trivial, h⟩
  | _ :: r, b, ⟨h1, h2⟩ => ⟨⟨h1, (AllIn_append h2).1⟩, (AllIn_append h2).2⟩
theorem NdOk_need {ps : List Nat} {Es : List Asn} : ∀ {Vs : List Dn}, AllIn Es (needF ps Vs) → NdOk ps Es Vs
  | [], _ => trivial
  | ⟨i, d, v, nd, p⟩ :: r, h => by
    unfold needF at h
    cases p with
    | false => exact ⟨trivial, NdOk_need h⟩
    | true =>
      cases hc : ps.contains i with
      | true => rw [hc] at h; exact ⟨by show (bif ps.contains i then True else AllIn Es nd); rw [hc]; trivial, NdOk_need h⟩
      | false =>
        rw [hc] at h
        simp only [Bool.not_false, Bool.and_self, cond_true] at h
        exact ⟨by simp only [hc, cond_false, cond_true]; exact (AllIn_append h).1, NdOk_need (AllIn_append h).2⟩

/-- What all promises need. -/
def allNd : List Dn → List Asn
  | [] => []
  | ⟨_, _, _, nd, _⟩ :: r => nd ++ allNd r
theorem NdOk_all {ps : List Nat} {Es : List Asn} : ∀ {Vs : List Dn}, AllIn Es (allNd Vs) → NdOk ps Es Vs
  | [], _ => trivial
  | ⟨i, d, v, nd, p⟩ :: r, h => by
    unfold allNd at h
    have h1 := (AllIn_append h).1
    refine ⟨?_, NdOk_all (AllIn_append h).2⟩
    cases p with
    | false => trivial
    | true => cases hc : ps.contains i <;> simp [hc, h1]

section
variable {C : Ctx} {ds : List Deferred} {l0 l' : Sl} {Vs : List Dn} {Es : List Asn} {h : Ro} {os : List Oper} {K : List Item} {pl : List (Nat × Nat)}
  {d : Tmp} {ty : TypeId} {pos : String} {aft : Array Edge} {gd : Option (Nat × Bool)} {i : Nat}

theorem GO_drawp {n : Nat} (Lg : List Nat) (pl : List (Nat × Nat)) (hb : regB C.N os.toArray Lg = true) (g : GDp pl C ds l0 [] Es h os.toArray K) : GO C ds l0 Es h (.code (.region n os.toArray true) :: K) := GO_draw Lg hb g

theorem GP_done {l : Sl} (hb : ((List.range os.toArray.size).all (inVs Vs)) = true) (hl : slF Vs l0 = some l) (g : GO C ds l Es h K) : GDp [] C ds l0 Vs Es h os.toArray K := GD_done hb (slF_eq hl ▸ g)

theorem os_get {o : Oper} (ho : lnth i os = some o) : os.toArray[i]? = some o := by simpa using lnth_eq ho

theorem GP_un {op : Op} (ho : lnth i os = some ⟨some d, op, ty, pos, aft, gd⟩) (hc : canB Vs i ⟨some d, op, ty, pos, aft, gd⟩ = true) (hl : pickF (opSlots os.toArray ⟨some d, op, ty, pos, aft, gd⟩) (sl Vs l0) = some l')
    (hg : wantedB os.toArray l' gd = some false) (g : GDp pl C ds l0 (⟨i, some d, undef, [], true⟩ :: Vs) Es h os.toArray K) : GDp ((i, 0) :: pl) C ds l0 Vs Es h os.toArray K :=
  GD_prom (nd := []) (os_get ho) hc (by simp) (fun a w hs _ _ => .inr ⟨wantedB_ok (pickF_eq hl ▸ hs) hg, rfl⟩) g

/-- Carried out, with this value, whatever the memory is beyond what is named. -/
def OV (C : Ctx) (l : Sl) (nd : List Asn) (h : Ro) (o : Oper) (v : Value) : Prop :=
  isDefer o.op = false ∧ ∀ a w, SlotsOk l a → (∀ A ∈ nd, ∃ D, A.holds D (mem w)) → Le h (mem w) → (execOp a.eval o).run C.P w = .ok (.value v) w

theorem GP_ov {op : Op} {nd : List Asn} {v : Value} (ho : lnth i os = some ⟨some d, op, ty, pos, aft, gd⟩) (hc : canB Vs i ⟨some d, op, ty, pos, aft, gd⟩ = true) (hl : pickF (opSlots os.toArray ⟨some d, op, ty, pos, aft, gd⟩) (sl Vs l0) = some l')
    (hg : wantedB os.toArray l' gd = some true) (hv : OV C l' nd h ⟨some d, op, ty, pos, aft, gd⟩ v) (hnd : AllIn Es nd) (g : GDp pl C ds l0 (⟨i, some d, v, nd, true⟩ :: Vs) Es h os.toArray K) : GDp ((i, 0) :: pl) C ds l0 Vs Es h os.toArray K :=
  GD_prom (os_get ho) hc hnd.ok (fun a w hs hn hm => .inl ⟨wantedB_ok (pickF_eq hl ▸ hs) hg, hv.1, hv.2 a w (pickF_eq hl ▸ hs) hn hm⟩) g

theorem GP_pv {op : Op} {v : Value} (ho : lnth i os = some ⟨some d, op, ty, pos, aft, gd⟩) (hc : canB Vs i ⟨some d, op, ty, pos, aft, gd⟩ = true) (hl : pickF (opSlots os.toArray ⟨some d, op, ty, pos, aft, gd⟩) (sl Vs l0) = some l')
    (hg : wantedB os.toArray l' gd = some true) (hv : pv C.ts l' op = some v) (g : GDp pl C ds l0 (⟨i, some d, v, [], true⟩ :: Vs) Es h os.toArray K) : GDp ((i, 0) :: pl) C ds l0 Vs Es h os.toArray K :=
  GP_ov (nd := []) ho hc hl hg ⟨pv_defer hv, fun a w hs _ _ => pv_ok C.ok hs hv w⟩ trivial g

/-- A guard that is not decided: both ways. -/
def setV (s : Nat) (u : Value) : List Dn → Option (List Dn)
  | [] => none
  | ⟨i, d, v, nd, p⟩ :: r => bif eqSome d s then some (⟨i, d, u, nd, p⟩ :: r) else match setV s u r with
    | some t => some (⟨i, d, v, nd, p⟩ :: t)
    | none => none
theorem setV_eq {s : Nat} {u : Value} : ∀ {Vs Vs' : List Dn}, setV s u Vs = some Vs' → look s (sl Vs l0) = some u → Vs' = Vs
  | ⟨i, d, v, nd, p⟩ :: r, Vs', e, hv => by
    unfold setV at e
    rw [sl_cons] at hv
    cases hd : eqSome d s with
    | true =>
      rw [hd] at e
      simp only [cond_true, Option.some.injEq] at e
      cases d with
      | none => cases hd
      | some d =>
        have : d = s := Nat.eq_of_beq_eq_true hd
        subst this
        simp only [putS, look_cons_same, Option.some.injEq] at hv
        rw [← e, hv]
    | false =>
      rw [hd] at e
      simp only [cond_false] at e
      have hv' : look s (sl r l0) = some u := by
        cases d with
        | none => exact hv
        | some d =>
          have : s ≠ d := fun e' => by subst e'; simp [eqSome, Nat.beq_refl] at hd
          simpa only [putS, look_cons_ne this] using hv
      cases hr : setV s u r with
      | none => rw [hr] at e; cases e
      | some t => rw [hr] at e; simp only [Option.some.injEq] at e; rw [← e, setV_eq hr hv']

theorem GP_split {o : Oper} {s : Nat} {b c : Bool} {Vt Vf : List Dn} (ho : lnth i os = some o) (hg : guardSlot os.toArray o.guard = some (s, b)) (hc : look s (sl Vs l0) = some (.bool c))
    (h1 : setV s (.bool true) Vs = some Vt) (h2 : setV s (.bool false) Vs = some Vf)
    (ht : c = true → GDp ((i, 0) :: pl) C ds l0 Vt Es h os.toArray K) (hf : c = false → GDp ((i, 0) :: pl) C ds l0 Vf Es h os.toArray K) : GDp ((i, 0) :: pl) C ds l0 Vs Es h os.toArray K := by
  cases c with
  | true => exact setV_eq h1 hc ▸ ht rfl
  | false => exact setV_eq h2 hc ▸ hf rfl
theorem GP_splitD {o : Oper} {s : Nat} {b : Bool} {p : Prop} {inst : Decidable p} {Vt Vf : List Dn} (ho : lnth i os = some o) (hg : guardSlot os.toArray o.guard = some (s, b)) (hc : look s (sl Vs l0) = some (.bool (decide p)))
    (h1 : setV s (.bool true) Vs = some Vt) (h2 : setV s (.bool false) Vs = some Vf)
    (ht : p → GDp ((i, 0) :: pl) C ds l0 Vt Es h os.toArray K) (hf : ¬ p → GDp ((i, 0) :: pl) C ds l0 Vf Es h os.toArray K) : GDp ((i, 0) :: pl) C ds l0 Vs Es h os.toArray K :=
  GP_split ho hg hc h1 h2 (fun e => ht (of_decide_eq_true e)) (fun e => hf (of_decide_eq_false e))
theorem GP_splitN {o : Oper} {s : Nat} {b : Bool} {p : Prop} {inst : Decidable p} {Vt Vf : List Dn} (ho : lnth i os = some o) (hg : guardSlot os.toArray o.guard = some (s, b)) (hc : look s (sl Vs l0) = some (.bool (!decide p)))
    (h1 : setV s (.bool true) Vs = some Vt) (h2 : setV s (.bool false) Vs = some Vf)
    (ht : ¬ p → GDp ((i, 0) :: pl) C ds l0 Vt Es h os.toArray K) (hf : p → GDp ((i, 0) :: pl) C ds l0 Vf Es h os.toArray K) : GDp ((i, 0) :: pl) C ds l0 Vs Es h os.toArray K :=
  GP_split ho hg hc h1 h2 (fun e => ht (by simpa using e)) (fun e => hf (by simpa using e))

theorem GP_real {dst : Option Tmp} {op : Op} (ho : lnth i os = some ⟨dst, op, ty, pos, aft, gd⟩) (hb : (onlyB Vs [i] os.toArray && Nat.blt i os.toArray.size && !inVs Vs i) = true) (hl : pickF (opSlots os.toArray ⟨dst, op, ty, pos, aft, gd⟩) (sl Vs l0) = some l')
    (hg : wantedB os.toArray l' gd = some true) (hx : isDefer op = false)
    (hO : OpTo C l' Es h ⟨dst, op, ty, pos, aft, gd⟩ fun v Es' h' => Le h h' ∧ NdOk (anc os.toArray i) Es' Vs ∧ GDp pl C ds l0 (⟨i, dst, v, [], false⟩ :: Vs) Es' h' os.toArray K) :
    GDp ((i, 1) :: pl) C ds l0 Vs Es h os.toArray K :=
  GD_real i hb (os_get ho) (pickF_eq hl ▸ hg) hx (pickF_eq hl ▸ hO)

/-- One of two: the premise for one of them. -/
def RealP (pl : List (Nat × Nat)) (C : Ctx) (ds : List Deferred) (l0 : Sl) (Vs : List Dn) (Es : List Asn) (h : Ro) (os : List Oper) (K : List Item) (i : Nat) : Prop := Real C ds l0 Vs Es h os.toArray K i
theorem RealP_intro {dst : Option Tmp} {op : Op} (ho : lnth i os = some ⟨dst, op, ty, pos, aft, gd⟩) (hl : pickF (opSlots os.toArray ⟨dst, op, ty, pos, aft, gd⟩) (sl Vs l0) = some l')
    (hg : wantedB os.toArray l' gd = some true) (hx : isDefer op = false)
    (hO : OpTo C l' Es h ⟨dst, op, ty, pos, aft, gd⟩ fun v Es' h' => Le h h' ∧ NdOk (anc os.toArray i) Es' Vs ∧ GDp pl C ds l0 (⟨i, dst, v, [], false⟩ :: Vs) Es' h' os.toArray K) :
    RealP pl C ds l0 Vs Es h os K i := ⟨_, os_get ho, pickF_eq hl ▸ hg, hx, pickF_eq hl ▸ hO⟩
def tkP : Nat → List (Nat × Nat) → Option (List (Nat × Nat))
  | 0, _ => some []
  | _ + 1, [] => some []
  | n + 1, x :: r => match tkP n r with | some t => some (x :: t) | none => none
def drP : Nat → List (Nat × Nat) → Option (List (Nat × Nat))
  | 0, l => some l
  | _ + 1, [] => some []
  | n + 1, _ :: r => drP n r
theorem GP_two {m j : Nat} {pi pj : List (Nat × Nat)} (hb : (onlyB Vs [i, j] os.toArray && Nat.blt i os.toArray.size && !inVs Vs i) = true) (hpi : tkP m pl = some pi) (hpj : drP m pl = some pj)
    (hi : RealP pi C ds l0 Vs Es h os K i) (hj : RealP pj C ds l0 Vs Es h os K j) : GDp ((i, 2) :: (m, j) :: pl) C ds l0 Vs Es h os.toArray K := GD_real2 i j hb hi hj
end
end Go.Hw

import Derived.Test.YtajmniiiahhfaaaGreatDoorHwZe
import Derived.Test.YtajmniiiahhfaaaGreatDoorHB
import Derived.Test.YtajmniiiahhfaaaGreatDoorHwUs
import Derived.Test.YtajmniiiahhfaaaGreatDoorHC
/-
  Hw, part Bi: words of 64 bits and bytes: bitwise operations, shifts, conversions.
-/
set_option linter.unusedVariables false
set_option linter.unusedSimpArgs false
namespace Go.Hw
open Go
abbrev B64 := BitVec 64
section
variable {C : Ctx} {l : Sl} {h : Ro} {ty : TypeId} {pos : String} {aft : Array Edge} {gd : Option (Nat × Bool)} {dst : Option Tmp} {t ty' : TypeId} {x y : Operand} {a b : B64} {T : Ty}
end
section
variable {C : Ctx} {l : Sl} {h : Ro} {ty : TypeId} {pos : String} {aft : Array Edge} {gd : Option (Nat × Bool)} {dst : Option Tmp} {s t : TypeId} {x : Operand} {S : Ty} {sz by' : Nat} {z : Value}
end
end Go.Hw
/-
  Hw, part Ow: blocks and rows that the call owns, read and written at an index that is no numeral; rows of zeros; clear of a row's end.
-/
set_option linter.unusedVariables false
set_option linter.unusedSimpArgs false
namespace Go.Hw
open Go
section
variable {C : Ctx} {ds : List Deferred} {l : Sl} {Es : List Asn} {h : Ro} {K : List Item} {G : Value → List Asn → Ro → Prop} {ty : TypeId} {pos : String} {aft : Array Edge} {gd : Option (Nat × Bool)} {dst : Option Tmp} {d : Tmp}
end
end Go.Hw
/-
  Hw, part Ox: part of an owned row is written over; clear.
-/
set_option linter.unusedVariables false
set_option linter.unusedSimpArgs false
namespace Go.Hw
open Go
section
variable {C : Ctx} {l : Sl} {Es : List Asn} {h : Ro} {G : Value → List Asn → Ro → Prop} {ty : TypeId} {pos : String} {aft : Array Edge} {gd : Option (Nat × Bool)} {dst : Option Tmp} {d : Tmp}
end
end Go.Hw
/-
  Hw, part Pr: rows of bytes made of texts, grown by rows; let go.
-/
set_option linter.unusedVariables false
set_option linter.unusedSimpArgs false
namespace Go.Hw
open Go
section
variable {C : Ctx} {ds : List Deferred} {l : Sl} {Es : List Asn} {h : Ro} {K : List Item} {G : Value → List Asn → Ro → Prop} {ty : TypeId} {pos : String} {aft : Array Edge} {gd : Option (Nat × Bool)} {d : Tmp} {dst : Option Tmp}
end
end Go.Hw
/-
  The digest, plain: tables, permutation, sum; words of 64 bits.
-/
set_option linter.unusedVariables false
namespace Go.Hw
open Go
def rotl (x : B64) (n : Nat) : B64 := (x <<< n) ||| (x >>> (64 - n))
def xyT : Nat → Nat × Nat
  | 0 => (1, 0)
  | t + 1 => ((xyT t).2, (2 * (xyT t).1 + 3 * (xyT t).2) % 5)
def turnT : Nat → List Nat
  | 0 => List.replicate 25 0
  | t + 1 => (turnT t).set (5 * (xyT t).2 + (xyT t).1) ((t + 1) * (t + 2) / 2 % 64)
def placeT : Nat → List Nat
  | 0 => List.replicate 25 0
  | i + 1 => (placeT i).set i (5 * ((2 * (i % 5) + 3 * (i / 5)) % 5) + i / 5)
def sNext (s : Nat) : Nat := if 2 * s > 255 then (2 * s) ^^^ 369 else 2 * s
def sT : Nat → Nat
  | 0 => 1
  | n + 1 => sNext (sT n)
def kAcc (i : Nat) : Nat → B64
  | 0 => 0
  | j + 1 => kAcc i j ||| (BitVec.ofNat 64 (sT (7 * i + j) % 2) <<< (2 ^ j - 1))
def kT : Nat → List B64
  | 0 => List.replicate 24 0
  | i + 1 => (kT i).set i (kAcc i 7)
@[simp] theorem turnT_len : ∀ t, (turnT t).length = 25
  | 0 => rfl
  | t + 1 => by rw [turnT, List.length_set, turnT_len t]
@[simp] theorem placeT_len : ∀ t, (placeT t).length = 25
  | 0 => rfl
  | t + 1 => by rw [placeT, List.length_set, placeT_len t]
@[simp] theorem kT_len : ∀ t, (kT t).length = 24
  | 0 => rfl
  | t + 1 => by rw [kT, List.length_set, kT_len t]
def placeL : List Nat := placeT 25
def turnL : List Nat := turnT 24
def dgK : List B64 := kT 24
def colS (l : List B64) : Nat → List B64
  | 0 => List.replicate 5 0
  | n + 1 => (colS l n).set (n % 5) ((colS l n).getD (n % 5) 0 ^^^ l.getD n 0)
def rhoS (l c : List B64) : Nat → List B64
  | 0 => List.replicate 25 0
  | n + 1 => (rhoS l c n).set (placeL.getD n 0) (rotl (l.getD n 0 ^^^ (c.getD ((n % 5 + 4) % 5) 0 ^^^ rotl (c.getD ((n % 5 + 1) % 5) 0) 1)) (turnL.getD n 0))
def chiS (b l : List B64) : Nat → List B64
  | 0 => l
  | n + 1 => (chiS b l n).set n (b.getD n 0 ^^^ (~~~ (b.getD (n - n % 5 + (n % 5 + 1) % 5) 0) &&& b.getD (n - n % 5 + (n % 5 + 2) % 5) 0))
def roundS (l : List B64) (k : B64) : List B64 :=
  let m := chiS (rhoS l (colS l 25) 25) l 25
  m.set 0 (m.getD 0 0 ^^^ k)
def permS (l : List B64) : Nat → List B64
  | 0 => l
  | i + 1 => roundS (permS l i) (dgK.getD i 0)
@[simp] theorem colS_len (l : List B64) : ∀ n, (colS l n).length = 5
  | 0 => rfl
  | n + 1 => by rw [colS, List.length_set, colS_len l n]
@[simp] theorem rhoS_len (l c : List B64) : ∀ n, (rhoS l c n).length = 25
  | 0 => rfl
  | n + 1 => by rw [rhoS, List.length_set, rhoS_len l c n]
@[simp] theorem chiS_len (b l : List B64) : ∀ n, (chiS b l n).length = l.length
  | 0 => rfl
  | n + 1 => by rw [chiS, List.length_set, chiS_len b l n]
@[simp] theorem roundS_len (l : List B64) (k : B64) : (roundS l k).length = l.length := by unfold roundS; simp
@[simp] theorem permS_len (l : List B64) : ∀ n, (permS l n).length = l.length
  | 0 => rfl
  | n + 1 => by rw [permS, roundS_len, permS_len l n]
def absS (l : List B64) (p : List UInt8) : Nat → List B64
  | 0 => l
  | i + 1 => (absS l p i).set (i / 8) ((absS l p i).getD (i / 8) 0 ^^^ (BitVec.ofNat 64 (p.getD i 0).toNat <<< (8 * (i % 8))))
@[simp] theorem absS_len (l : List B64) (p : List UInt8) : ∀ n, (absS l p n).length = l.length
  | 0 => rfl
  | n + 1 => by rw [absS, List.length_set, absS_len l p n]
def blkS (p : List UInt8) : Nat → List B64
  | 0 => List.replicate 25 0
  | n + 1 => permS (absS (blkS p n) (p.drop (136 * n)) 136) 24
@[simp] theorem blkS_len (p : List UInt8) : ∀ n, (blkS p n).length = 25
  | 0 => rfl
  | n + 1 => by rw [blkS, permS_len, absS_len, blkS_len p n]
def endS (n : Nat) : List UInt8 :=
  let z := (List.replicate (136 - n % 136) (0 : UInt8)).set 0 6
  z.set (136 - n % 136 - 1) (z.getD (136 - n % 136 - 1) 0 ^^^ 128)
@[simp] theorem endS_len (n : Nat) : (endS n).length = 136 - n % 136 := by unfold endS; simp
def outT (l : List B64) : Nat → List UInt8
  | 0 => List.replicate 32 0
  | i + 1 => (outT l i).set i (UInt8.ofNat ((l.getD (i / 8) 0) >>> (8 * (i % 8))).toNat)
@[simp] theorem outT_len (l : List B64) : ∀ n, (outT l n).length = 32
  | 0 => rfl
  | n + 1 => by rw [outT, List.length_set, outT_len l n]
def sumF (b : List UInt8) : List UInt8 := outT (blkS (b ++ endS b.length) ((b.length + (136 - b.length % 136)) / 136)) 32
def digF (tag b : List UInt8) : List UInt8 := sumF (sumF tag ++ b)
end Go.Hw
/-
  Hw, part Bj: values of arithmetic, in drawn regions too; cells of words.
-/
set_option linter.unusedVariables false
set_option linter.unusedSimpArgs false
namespace Go.Hw
open Go
section
variable {C : Ctx} {l : Sl} {h : Ro} {ty : TypeId} {pos : String} {aft : Array Edge} {gd : Option (Nat × Bool)} {dst : Option Tmp} {t ty' : TypeId} {x y : Operand} {T : Ty}
end
section
variable {C : Ctx} {l : Sl} {h : Ro} {ty : TypeId} {pos : String} {aft : Array Edge} {gd : Option (Nat × Bool)} {dst : Option Tmp} {s t : TypeId} {x : Operand} {S T : Ty}
end
end Go.Hw
/-
  Hw, part Bk: whole blocks loaded and stored; rows of zero bytes; bytes xored.
-/
set_option linter.unusedVariables false
set_option linter.unusedSimpArgs false
namespace Go.Hw
open Go
section
variable {C : Ctx} {ds : List Deferred} {l : Sl} {Es : List Asn} {h : Ro} {K : List Item} {G : Value → List Asn → Ro → Prop} {ty : TypeId} {pos : String} {aft : Array Edge} {gd : Option (Nat × Bool)} {dst : Option Tmp} {d : Tmp}
end
section
variable {C : Ctx} {l : Sl} {h : Ro} {ty : TypeId} {pos : String} {aft : Array Edge} {gd : Option (Nat × Bool)} {dst : Option Tmp} {t ty' : TypeId} {x y : Operand}
end
end Go.Hw
/-
  Hw, part Ut: the library's slices.SortFunc of structs whose order reads memory: it leaves a permutation in order.
-/
set_option linter.unusedVariables false
namespace Go.Hw
open Go Go.Sort Go.Proofs
end Go.Hw
/-
  Hw, part Ka: maps whose keys are arrays of bytes.
-/
set_option linter.unusedVariables false
namespace Go.Hw
open Go
theorem run_checkKey_array {P : Program} {ts : List Ty} (hT : TsOk P ts) {k e m : Nat} {T E : Ty} {q : IntKind} (hk : tyOf k ts = some T) (hd : T.desc = .array m e) (hE : tyOf e ts = some E) (hEd : E.desc = .int q) (hEs : E.size = 1) (hEa : E.agg = false) {xs : List Value} (hl : xs.length = m) (hc : ∀ v ∈ xs, ∃ n, v = .int q n) (w : World) (em : Bool) :
    (Instr.checkKey em 10000 k (.agg xs.toArray)).run P w = .ok () w := by
  obtain ⟨D, hD, hb⟩ := hT.und hk
  rw [hd] at hb
  rw [blank_array hb] at hD
  obtain ⟨D2, hD2, hb2⟩ := hT.und hE
  rw [hEd] at hb2
  rw [blank_int hb2] at hD2
  show (Instr.checkKey em (9999 + 1) k (.agg xs.toArray)).run P w = _
  unfold Instr.checkKey
  simp only [Sem.run_bind, run_underlying hD, Result.andThen_ok]
  simp only [Std.Legacy.Range.forIn_eq_forIn_range', Std.Legacy.Range.size, Nat.sub_zero, Nat.add_one_sub_one, Nat.div_one]
  have hall : ∀ i ∈ List.range' 0 m, i < m := by
    intro i hi
    rw [List.mem_range'] at hi
    obtain ⟨j, h1, h2⟩ := hi
    omega
  generalize List.range' 0 m = L at hall ⊢
  induction L with
  | nil => simp
  | cons i r ih =>
    have hi := hall i List.mem_cons_self
    obtain ⟨n, hn⟩ := hc (xs[i]'(by omega)) (List.getElem_mem _)
    have hp : pvPart (i * E.size) E.size E.agg xs = some (.int q n) := by
      unfold pvPart
      rw [hEa, hEs, Nat.mul_one]
      simp only
      have : ∀ (o : Nat) (cs : List Value), nth o cs = cs[o]? := by
        intro o
        induction o with
        | zero => intro cs; cases cs <;> rfl
        | succ o iho => intro cs; cases cs with
          | nil => rfl
          | cons a l => rw [List.getElem?_cons_succ]; exact iho l
      rw [this, List.getElem?_eq_getElem (by omega), hn]
    have p1 := pvPart_ok hp w (hT.run_size hE w) (hT.run_agg hE w)
    have p2 := MapKept.run_checkKey (P := P) (w := w) hD2 (show MapKept.IsKey (.int q) (.int q n) from rfl) em 9998
    simp only [List.forIn_cons, Sem.run_bind, hT.run_size hE, p1, p2, Sem.run_pure, Result.andThen_ok]
    exact ih fun j hj => hall j (List.mem_cons_of_mem _ hj)
theorem KeyT.array {κ : Type} [DecidableEq κ] {P : Program} {ts : List Ty} (hT : TsOk P ts) {k m e : Nat} {T E : Ty} {q : IntKind} (hk : tyOf k ts = some T) (hd : T.desc = .array m e) (hE : tyOf e ts = some E) (hEd : E.desc = .int q) (hEs : E.size = 1) (hEa : E.agg = false) (f : κ → List Value) (hinj : ∀ x y, f x = f y → x = y)
    (hl : ∀ x, (f x).length = m) (heq : ∀ x y, eqV ts 10 k (.agg (f x).toArray) (.agg (f y).toArray) = some (decide (x = y))) (hs : (eqVIds ts 10 k).all (fun i => !P.stoodInHeld i) = true) (hb : ∀ x, ∀ v ∈ f x, ∃ n, v = .int q n) :
    KeyT P k (fun x => .agg (f x).toArray) where
  check := fun w em x => run_checkKey_array hT hk hd hE hEd hEs hEa (hl x) (hb x) w em
  inj := fun x y e => by injection e with e; exact hinj x y (by simpa using congrArg Array.toList e)
  stays := fun w x => by
    have hs : Instr.sameBits 10000 (.agg (f x).toArray) (.agg (f x).toArray) = true := by
      show Instr.sameBits (9999 + 1) (.agg (f x).toArray) (.agg (f x).toArray) = true
      simp only [Instr.sameBits, beq_self_eq_true, Bool.true_and, List.all_eq_true]
      intro p hp
      obtain ⟨i, hi, e⟩ := List.getElem_of_mem hp
      rw [List.getElem_zip] at e
      rw [← e]
      simp only
      obtain ⟨n, e2⟩ := hb x ((f x).toArray.toList[i]'(by simpa using hi)) (List.getElem_mem _)
      rw [e2]
      simp [Instr.sameBits]
    simp [Instr.keyThatStays, hs]
  find := fun w x ev es l h => by
    obtain ⟨D, hD, hb⟩ := hT.und hk
    rw [hd] at hb
    rw [blank_array hb] at hD
    have ask : ∀ (es : List MapEntry) (l : List (κ × Nat)) (i : Nat), es.map (fun e => (e.key, e.val)) = l.map (fun p => (Value.agg (f p.1).toArray, ev p.2)) →
        (Instr.findAsking k (.agg (f x).toArray) es i).run P w = .ok ((firstK x l i).map fun p => (p.1, ev p.2)) w := by
      intro es
      induction es with
      | nil => intro l i h; cases l with
        | nil => simp [Instr.findAsking, firstK]
        | cons p l => cases h
      | cons e es ih =>
        intro l i h
        cases l with
        | nil => cases h
        | cons p l =>
          simp only [List.map_cons, List.cons.injEq, Prod.mk.injEq] at h
          have q := eqV_ok hT w (heq x p.1) (fun i hi => by have := List.all_eq_true.1 hs i hi; simpa using this) 9990
          have q1 : (Op.equal k (.agg (f x).toArray) e.key).run P w = .ok (decide (x = p.1)) w := by rw [h.1.1]; exact q
          unfold Instr.findAsking
          simp only [Sem.run_bind, q1, Result.andThen_ok]
          by_cases hx : x = p.1
          · simp [firstK, hx, h.1.2]
          · simp only [hx, decide_false, Bool.false_eq_true, if_false, firstK, Ne.symm hx]
            exact ih l (i + 1) h.2
    unfold Instr.findKey
    simp only [Sem.run_bind, run_underlying hD, Result.andThen_ok]
    cases es with
    | nil => cases l with
      | nil => simp [Instr.findNow, firstK]
      | cons p l => cases h
    | cons e9 es =>
      have hn : Instr.findNow (.array m e) (.agg (f x).toArray) (e9 :: es) 0 = none := by simp [Instr.findNow, Instr.sameNow]
      rw [hn]
      exact ask (e9 :: es) l 0 h
end Go.Hw

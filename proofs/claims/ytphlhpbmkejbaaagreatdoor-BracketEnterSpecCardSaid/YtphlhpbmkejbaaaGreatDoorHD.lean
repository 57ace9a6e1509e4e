import Derived.Test.YtphlhpbmkejbaaaGreatDoorHwZe
import Derived.Test.YtphlhpbmkejbaaaGreatDoorHB
import Derived.Test.YtphlhpbmkejbaaaGreatDoorHwUs
import Derived.Test.YtphlhpbmkejbaaaGreatDoorHC
set_option linter.unusedVariables false
set_option linter.unusedSimpArgs false
namespace Go.Hw
open Go
abbrev B64:=BitVec 64
abbrev u64V (x : B64) : Value:=.int .u64 ((x.toNat : Nat) : Int)
theorem wrap_nat64 {n : Nat} (h : n < 18446744073709551616) : IntKind.u64.wrap (n : Int) = n:=u64_in ⟨by omega,by omega⟩
theorem wrap_mod (n : Int) : IntKind.u64.wrap n = n % 18446744073709551616:=by simp [IntKind.wrap,IntKind.bits,IntKind.signed]
section
variable {C : Ctx} {l : Sl} {h : Ro} {ty : TypeId} {pos : String} {aft : Array Edge} {gd : Option (Nat × Bool)} {dst : Option Tmp} {t ty' : TypeId} {x y : Operand} {a b : B64} {T : Ty}
theorem OV_shr64 {k : IntKind} {i : Int} {n : Nat} (hx : evl l x = some (u64V a)) (hy : evl l y = some (.int k i)) (hi : i = (n : Int)) : OV C l [] h ⟨dst,.binOp .shr t x y ty',ty,pos,aft,gd⟩ (u64V (a >>> n)) :=
  ⟨rfl,fun ac w hs _ _ => by
    have e1:=hs.eval hx
    have e2:=hs.eval hy
    subst hi
    have e3 : (((a.toNat : Nat) : Int)).fdiv (2 ^ (min n 64)) = (((a >>> n).toNat : Nat) : Int):=by
      rw [BitVec.toNat_ushiftRight,Nat.shiftRight_eq_div_pow]
      rw [Int.fdiv_eq_ediv_of_nonneg _ (by exact Int.le_of_lt (Int.pow_pos (by omega)))]
      have : ((2 : Int) ^ (min n 64)) = ((2 ^ (min n 64) : Nat) : Int):=by push_cast;rfl
      rw [this,← Int.natCast_ediv]
      have e4 : a.toNat / 2 ^ (min n 64) = a.toNat / 2 ^ n:=by
        rcases Nat.le_total n 64 with h|h
        · rw [Nat.min_eq_left h]
        · rw [Nat.min_eq_right h]
          have ha : a.toNat < 2 ^ 64:=a.isLt
          rw [Nat.div_eq_of_lt ha,Nat.div_eq_of_lt (Nat.lt_of_lt_of_le ha (Nat.pow_le_pow_right (by omega) h))]
      rw [e4]
    have e4 : (do eqGuard .shr t x y (u64V a) (.int k ((n : Nat) : Int));binOp .shr t (u64V a) (.int k ((n : Nat) : Int)) : Sem Value).run C.P w = .ok (u64V (a >>> n)) w:=by
      show (Op.shift .shr .u64 ((a.toNat : Nat) : Int) k ((n : Nat) : Int)).run C.P w = _
      unfold Op.shift
      rw [if_neg (by omega)]
      show Result.ok (Value.int .u64 ((((a.toNat : Nat) : Int)).fdiv (2 ^ (min (((n : Nat) : Int).toNat) 64)))) w = _
      rw [Int.toNat_natCast,e3]
    simp only [execOp,e1,e2,Sem.run_bind,Sem.run_pure,Result.andThen_ok] at e4 ⊢
    rw [e4];rfl⟩
end
section
variable {C : Ctx} {l : Sl} {h : Ro} {ty : TypeId} {pos : String} {aft : Array Edge} {gd : Option (Nat × Bool)} {dst : Option Tmp} {s t : TypeId} {x : Operand} {S : Ty} {sz by' : Nat} {z : Value}
end
end Go.Hw
set_option linter.unusedVariables false
set_option linter.unusedSimpArgs false
namespace Go.Hw
open Go
theorem flat_get7 {α : Type} {enc : α → List Value} {sz : Nat} (hl : ∀ x,(enc x).length = sz) : ∀ (xs : List α) (k j : Nat) (x : α) (u : Value),xs[k]? = some x → (enc x)[j]? = some u → (xs.flatMap enc)[k * sz + j]? = some u
  | [],k,j,x,u,h,_ => by simp at h
  | y :: r,0,j,x,u,h,hu => by
    rw [List.getElem?_cons_zero,Option.some.injEq] at h
    subst h
    have hj:=(List.getElem?_eq_some_iff.1 hu).1
    rw [Nat.zero_mul,Nat.zero_add,List.flatMap_cons,List.getElem?_append_left hj];exact hu
  | y :: r,k + 1,j,x,u,h,hu => by
    rw [List.getElem?_cons_succ] at h
    have:=flat_get7 hl r k j x u h hu
    rw [List.flatMap_cons,List.getElem?_append_right (by rw [hl,Nat.succ_mul];omega),hl,Nat.succ_mul,show k * sz + sz + j - sz = k * sz + j by omega]
    exact this
theorem flat_set7 {α : Type} {enc : α → List Value} {sz : Nat} (hl : ∀ x,(enc x).length = sz) : ∀ (xs : List α) (k : Nat) (x : α),k < xs.length → (xs.set k x).flatMap enc = (xs.flatMap enc).take (k * sz) ++ enc x ++ (xs.flatMap enc).drop (k * sz + sz)
  | [],k,x,h => by simp at h
  | y :: r,0,x,h => by
    simp only [List.set_cons_zero,List.flatMap_cons,Nat.zero_mul,List.take_zero,List.nil_append,Nat.zero_add]
    rw [List.drop_left' (hl y)]
  | y :: r,k + 1,x,h => by
    have ih:=flat_set7 hl r k x (by simpa using h)
    have h1 : (enc y).length = sz:=hl y
    simp only [List.set_cons_succ,List.flatMap_cons,ih]
    have t1:=List.take_length_add_append (l₁:=enc y) (l₂:=r.flatMap enc) (k * sz)
    have t2:=List.drop_length_add_append (l₁:=enc y) (l₂:=r.flatMap enc) (k * sz + sz)
    rw [h1] at t1 t2
    rw [show (k + 1) * sz = sz + k * sz by rw [Nat.succ_mul];omega,show sz + k * sz + sz = sz + (k * sz + sz) by omega,t1,t2]
    simp only [List.append_assoc]
section
variable {C : Ctx} {ds : List Deferred} {l : Sl} {Es : List Asn} {h : Ro} {K : List Item} {G : Value → List Asn → Ro → Prop} {ty : TypeId} {pos : String} {aft : Array Edge} {gd : Option (Nat × Bool)} {dst : Option Tmp} {d : Tmp}
theorem Lv_own {T : TypeId} {t : Ty} {e sz b off n c : Nat} {cs vs : List Value} {v : Value} (hT : tyOf T C.ts = some t) (hv : pvPart 0 t.size t.agg vs = some v) (hc : ∀ j u,vs[j]? = some u → cs[off + j]? = some u) :
    Lv C [OwnS e sz (.slice (some ⟨b,0,none⟩) n c) n cs] h T ⟨b,off,none⟩ v :=
  Lv_cells hT hv fun w hn hm j u hj => by
    obtain ⟨D,hl,hr⟩:=hn _ (.head _)
    rcases hr with ⟨h0,_⟩|⟨g',cap,cur,h2,h3,h4,h5,h6,h7,h8⟩
    · cases h0
    · injection h2 with h2 _ h23
      injection h2 with h2;injection h2 with h2
      subst h2
      have hb' : w.heap[b]? = some (.cells cur e (0,0)):=h4
      have h9:=hc j u hj
      rw [← h8,List.getElem?_take] at h9
      split at h9
      · rw [add_off]
        simp only [World.cell?,hb']
        simpa using h9
      · cases h9
theorem OV_ldS {α : Type} {enc : α → List Value} {t e sz : Nat} {x : Operand} {b off k n c : Nat} {xs : List α} {ad : Addr} {y : α} {v : Value} {T : Ty} (hT : tyOf t C.ts = some T) (hx : evl l x = some (.pointer (some ad))) (had : ad = ⟨b,k * sz,none⟩) (hl : ∀ x,(enc x).length = sz)
    (hy : xs[k]? = some y) (hv : pvPart 0 T.size T.agg (enc y) = some v) : OV C l [OwnS e sz (.slice (some ⟨b,0,none⟩) n c) n (xs.flatMap enc)] h ⟨dst,.load t x,ty,pos,aft,gd⟩ v:=by
  subst had
  exact OV_load hx (Lv_own hT hv fun j u hj => flat_get7 hl xs k j y u hy hj)
end
end Go.Hw
set_option linter.unusedVariables false
set_option linter.unusedSimpArgs false
namespace Go.Hw
open Go
section
variable {C : Ctx} {l : Sl} {Es : List Asn} {h : Ro} {G : Value → List Asn → Ro → Prop} {ty : TypeId} {pos : String} {aft : Array Edge} {gd : Option (Nat × Bool)} {dst : Option Tmp} {d : Tmp}
end
end Go.Hw
set_option linter.unusedVariables false
set_option linter.unusedSimpArgs false
namespace Go.Hw
open Go
section
variable {C : Ctx} {ds : List Deferred} {l : Sl} {Es : List Asn} {h : Ro} {K : List Item} {G : Value → List Asn → Ro → Prop} {ty : TypeId} {pos : String} {aft : Array Edge} {gd : Option (Nat × Bool)} {d : Tmp} {dst : Option Tmp}
end
end Go.Hw
set_option linter.unusedVariables false
namespace Go.Hw
open Go
def rotl (x : B64) (n : Nat) : B64:=(x <<< n) ||| (x >>> (64 - n))
def xyT : Nat → Nat × Nat
  | 0 => (1,0)
  | t + 1 => ((xyT t).2,(2 * (xyT t).1 + 3 * (xyT t).2) % 5)
def turnT : Nat → List Nat
  | 0 => List.replicate 25 0
  | t + 1 => (turnT t).set (5 * (xyT t).2 + (xyT t).1) ((t + 1) * (t + 2) / 2 % 64)
def placeT : Nat → List Nat
  | 0 => List.replicate 25 0
  | i + 1 => (placeT i).set i (5 * ((2 * (i % 5) + 3 * (i / 5)) % 5) + i / 5)
def sNext (s : Nat) : Nat:=if 2 * s > 255 then (2 * s) ^^^ 369 else 2 * s
def sT : Nat → Nat
  | 0 => 1
  | n + 1 => sNext (sT n)
def kAcc (i : Nat) : Nat → B64
  | 0 => 0
  | j + 1 => kAcc i j ||| (BitVec.ofNat 64 (sT (7 * i + j) % 2) <<< (2 ^ j - 1))
def kT : Nat → List B64
  | 0 => List.replicate 24 0
  | i + 1 => (kT i).set i (kAcc i 7)
@[simp] theorem turnT_len : ∀ t,(turnT t).length = 25
  | 0 => rfl
  | t + 1 => by rw [turnT,List.length_set,turnT_len t]
@[simp] theorem placeT_len : ∀ t,(placeT t).length = 25
  | 0 => rfl
  | t + 1 => by rw [placeT,List.length_set,placeT_len t]
@[simp] theorem kT_len : ∀ t,(kT t).length = 24
  | 0 => rfl
  | t + 1 => by rw [kT,List.length_set,kT_len t]
def placeL : List Nat:=placeT 25
def turnL : List Nat:=turnT 24
def dgK : List B64:=kT 24
def colS (l : List B64) : Nat → List B64
  | 0 => List.replicate 5 0
  | n + 1 => (colS l n).set (n % 5) ((colS l n).getD (n % 5) 0 ^^^ l.getD n 0)
def rhoS (l c : List B64) : Nat → List B64
  | 0 => List.replicate 25 0
  | n + 1 => (rhoS l c n).set (placeL.getD n 0) (rotl (l.getD n 0 ^^^ (c.getD ((n % 5 + 4) % 5) 0 ^^^ rotl (c.getD ((n % 5 + 1) % 5) 0) 1)) (turnL.getD n 0))
def chiS (b l : List B64) : Nat → List B64
  | 0 => l
  | n + 1 => (chiS b l n).set n (b.getD n 0 ^^^ (~~~ (b.getD (n - n % 5 + (n % 5 + 1) % 5) 0) &&& b.getD (n - n % 5 + (n % 5 + 2) % 5) 0))
def roundS (l : List B64) (k : B64) : List B64 :=
  let m:=chiS (rhoS l (colS l 25) 25) l 25
  m.set 0 (m.getD 0 0 ^^^ k)
def permS (l : List B64) : Nat → List B64
  | 0 => l
  | i + 1 => roundS (permS l i) (dgK.getD i 0)
@[simp] theorem colS_len (l : List B64) : ∀ n,(colS l n).length = 5
  | 0 => rfl
  | n + 1 => by rw [colS,List.length_set,colS_len l n]
@[simp] theorem rhoS_len (l c : List B64) : ∀ n,(rhoS l c n).length = 25
  | 0 => rfl
  | n + 1 => by rw [rhoS,List.length_set,rhoS_len l c n]
@[simp] theorem chiS_len (b l : List B64) : ∀ n,(chiS b l n).length = l.length
  | 0 => rfl
  | n + 1 => by rw [chiS,List.length_set,chiS_len b l n]
@[simp] theorem roundS_len (l : List B64) (k : B64) : (roundS l k).length = l.length:=by unfold roundS;simp
@[simp] theorem permS_len (l : List B64) : ∀ n,(permS l n).length = l.length
  | 0 => rfl
  | n + 1 => by rw [permS,roundS_len,permS_len l n]
def absS (l : List B64) (p : List UInt8) : Nat → List B64
  | 0 => l
  | i + 1 => (absS l p i).set (i / 8) ((absS l p i).getD (i / 8) 0 ^^^ (BitVec.ofNat 64 (p.getD i 0).toNat <<< (8 * (i % 8))))
@[simp] theorem absS_len (l : List B64) (p : List UInt8) : ∀ n,(absS l p n).length = l.length
  | 0 => rfl
  | n + 1 => by rw [absS,List.length_set,absS_len l p n]
def blkS (p : List UInt8) : Nat → List B64
  | 0 => List.replicate 25 0
  | n + 1 => permS (absS (blkS p n) (p.drop (136 * n)) 136) 24
@[simp] theorem blkS_len (p : List UInt8) : ∀ n,(blkS p n).length = 25
  | 0 => rfl
  | n + 1 => by rw [blkS,permS_len,absS_len,blkS_len p n]
def endS (n : Nat) : List UInt8 :=
  let z:=(List.replicate (136 - n % 136) (0 : UInt8)).set 0 6
  z.set (136 - n % 136 - 1) (z.getD (136 - n % 136 - 1) 0 ^^^ 128)
@[simp] theorem endS_len (n : Nat) : (endS n).length = 136 - n % 136:=by unfold endS;simp
def outT (l : List B64) : Nat → List UInt8
  | 0 => List.replicate 32 0
  | i + 1 => (outT l i).set i (UInt8.ofNat ((l.getD (i / 8) 0) >>> (8 * (i % 8))).toNat)
@[simp] theorem outT_len (l : List B64) : ∀ n,(outT l n).length = 32
  | 0 => rfl
  | n + 1 => by rw [outT,List.length_set,outT_len l n]
end Go.Hw
set_option linter.unusedVariables false
set_option linter.unusedSimpArgs false
namespace Go.Hw
open Go
section
variable {C : Ctx} {l : Sl} {h : Ro} {ty : TypeId} {pos : String} {aft : Array Edge} {gd : Option (Nat × Bool)} {dst : Option Tmp} {t ty' : TypeId} {x y : Operand} {T : Ty}
theorem OV_mulI {p q : Int} (hT : tyOf t C.ts = some T) (hx : evl l x = some (.int .i64 p)) (hy : evl l y = some (.int .i64 q)) (hb : -9223372036854775808 ≤ p * q ∧ p * q ≤ 9223372036854775807) : OV C l [] h ⟨dst,.binOp .mul t x y ty',ty,pos,aft,gd⟩ (.int .i64 (p * q)) :=
  OV_bin hT hx hy (by simp [pvBin,i64_in _ hb])
end
section
variable {C : Ctx} {l : Sl} {h : Ro} {ty : TypeId} {pos : String} {aft : Array Edge} {gd : Option (Nat × Bool)} {dst : Option Tmp} {s t : TypeId} {x : Operand} {S T : Ty}
theorem OV_convI {k k' : IntKind} {p : Int} (hT : tyOf t C.ts = some T) (hTd : T.desc = .int k') (hS : tyOf s C.ts = some S) (hx : evl l x = some (.int k p)) (hb : k'.wrap p = p) : OV C l [] h ⟨dst,.convert s t x,ty,pos,aft,gd⟩ (.int k' p) :=
  OV_pv (by simp only [pv,hx,hT,hS,hTd,pvConv,hb])
end
end Go.Hw
set_option linter.unusedVariables false
set_option linter.unusedSimpArgs false
namespace Go.Hw
open Go
section
variable {C : Ctx} {ds : List Deferred} {l : Sl} {Es : List Asn} {h : Ro} {K : List Item} {G : Value → List Asn → Ro → Prop} {ty : TypeId} {pos : String} {aft : Array Edge} {gd : Option (Nat × Bool)} {dst : Option Tmp} {d : Tmp}
end
section
variable {C : Ctx} {l : Sl} {h : Ro} {ty : TypeId} {pos : String} {aft : Array Edge} {gd : Option (Nat × Bool)} {dst : Option Tmp} {t ty' : TypeId} {x y : Operand}
end
end Go.Hw
set_option linter.unusedVariables false
namespace Go.Hw
open Go Go.Sort Go.Proofs
end Go.Hw
set_option linter.unusedVariables false
namespace Go.Hw
open Go
theorem run_checkKey_array {P : Program} {ts : List Ty} (hT : TsOk P ts) {k e m : Nat} {T E : Ty} {q : IntKind} (hk : tyOf k ts = some T) (hd : T.desc = .array m e) (hE : tyOf e ts = some E) (hEd : E.desc = .int q) (hEs : E.size = 1) (hEa : E.agg = false) {xs : List Value} (hl : xs.length = m) (hc : ∀ v ∈ xs,∃ n,v = .int q n) (w : World) (em : Bool) :
    (Instr.checkKey em 10000 k (.agg xs.toArray)).run P w = .ok () w:=by
  obtain ⟨D,hD,hb⟩:=hT.und hk
  rw [hd] at hb
  rw [blank_array hb] at hD
  obtain ⟨D2,hD2,hb2⟩:=hT.und hE
  rw [hEd] at hb2
  rw [blank_int hb2] at hD2
  show (Instr.checkKey em (9999 + 1) k (.agg xs.toArray)).run P w = _
  unfold Instr.checkKey
  simp only [Sem.run_bind,run_underlying hD,Result.andThen_ok]
  simp only [Std.Legacy.Range.forIn_eq_forIn_range',Std.Legacy.Range.size,Nat.sub_zero,Nat.add_one_sub_one,Nat.div_one]
  have hall : ∀ i ∈ List.range' 0 m,i < m:=by
    intro i hi
    rw [List.mem_range'] at hi
    obtain ⟨j,h1,h2⟩:=hi
    omega
  generalize List.range' 0 m = L at hall ⊢
  induction L with
  | nil => simp
  | cons i r ih =>
    have hi:=hall i List.mem_cons_self
    obtain ⟨n,hn⟩:=hc (xs[i]'(by omega)) (List.getElem_mem _)
    have hp : pvPart (i * E.size) E.size E.agg xs = some (.int q n):=by
      unfold pvPart
      rw [hEa,hEs,Nat.mul_one]
      simp only
      have : ∀ (o : Nat) (cs : List Value),nth o cs = cs[o]?:=by
        intro o
        induction o with
        | zero => intro cs;cases cs <;> rfl
        | succ o iho => intro cs;cases cs with
          | nil => rfl
          | cons a l => rw [List.getElem?_cons_succ];exact iho l
      rw [this,List.getElem?_eq_getElem (by omega),hn]
    have p1:=pvPart_ok hp w (hT.run_size hE w) (hT.run_agg hE w)
    have p2:=MapKept.run_checkKey (P:=P) (w:=w) hD2 (show MapKept.IsKey (.int q) (.int q n) from rfl) em 9998
    simp only [List.forIn_cons,Sem.run_bind,hT.run_size hE,p1,p2,Sem.run_pure,Result.andThen_ok]
    exact ih fun j hj => hall j (List.mem_cons_of_mem _ hj)
theorem KeyT.array {κ : Type} [DecidableEq κ] {P : Program} {ts : List Ty} (hT : TsOk P ts) {k m e : Nat} {T E : Ty} {q : IntKind} (hk : tyOf k ts = some T) (hd : T.desc = .array m e) (hE : tyOf e ts = some E) (hEd : E.desc = .int q) (hEs : E.size = 1) (hEa : E.agg = false) (f : κ → List Value) (hinj : ∀ x y,f x = f y → x = y)
    (hl : ∀ x,(f x).length = m) (heq : ∀ x y,eqV ts 10 k (.agg (f x).toArray) (.agg (f y).toArray) = some (decide (x = y))) (hs : (eqVIds ts 10 k).all (fun i => !P.stoodInHeld i) = true) (hb : ∀ x,∀ v ∈ f x,∃ n,v = .int q n) :
    KeyT P k (fun x => .agg (f x).toArray) where
  check:=fun w em x => run_checkKey_array hT hk hd hE hEd hEs hEa (hl x) (hb x) w em
  inj:=fun x y e => by injection e with e;exact hinj x y (by simpa using congrArg Array.toList e)
  stays:=fun w x => by
    have hs : Instr.sameBits 10000 (.agg (f x).toArray) (.agg (f x).toArray) = true:=by
      show Instr.sameBits (9999 + 1) (.agg (f x).toArray) (.agg (f x).toArray) = true
      simp only [Instr.sameBits,beq_self_eq_true,Bool.true_and,List.all_eq_true]
      intro p hp
      obtain ⟨i,hi,e⟩:=List.getElem_of_mem hp
      rw [List.getElem_zip] at e
      rw [← e]
      simp only
      obtain ⟨n,e2⟩:=hb x ((f x).toArray.toList[i]'(by simpa using hi)) (List.getElem_mem _)
      rw [e2]
      simp [Instr.sameBits]
    simp [Instr.keyThatStays,hs]
  find:=fun w x ev es l h => by
    obtain ⟨D,hD,hb⟩:=hT.und hk
    rw [hd] at hb
    rw [blank_array hb] at hD
    have ask : ∀ (es : List MapEntry) (l : List (κ × Nat)) (i : Nat),es.map (fun e => (e.key,e.val)) = l.map (fun p => (Value.agg (f p.1).toArray,ev p.2)) →
        (Instr.findAsking k (.agg (f x).toArray) es i).run P w = .ok ((firstK x l i).map fun p => (p.1,ev p.2)) w:=by
      intro es
      induction es with
      | nil => intro l i h;cases l with
        | nil => simp [Instr.findAsking,firstK]
        | cons p l => cases h
      | cons e es ih =>
        intro l i h
        cases l with
        | nil => cases h
        | cons p l =>
          simp only [List.map_cons,List.cons.injEq,Prod.mk.injEq] at h
          have q:=eqV_ok hT w (heq x p.1) (fun i hi => by have:=List.all_eq_true.1 hs i hi;simpa using this) 9990
          have q1 : (Op.equal k (.agg (f x).toArray) e.key).run P w = .ok (decide (x = p.1)) w:=by rw [h.1.1];exact q
          unfold Instr.findAsking
          simp only [Sem.run_bind,q1,Result.andThen_ok]
          by_cases hx : x = p.1
          · simp [firstK,hx,h.1.2]
          · simp only [hx,decide_false,Bool.false_eq_true,if_false,firstK,Ne.symm hx]
            exact ih l (i + 1) h.2
    unfold Instr.findKey
    simp only [Sem.run_bind,run_underlying hD,Result.andThen_ok]
    cases es with
    | nil => cases l with
      | nil => simp [Instr.findNow,firstK]
      | cons p l => cases h
    | cons e9 es =>
      have hn : Instr.findNow (.array m e) (.agg (f x).toArray) (e9 :: es) 0 = none:=by simp [Instr.findNow,Instr.sameNow]
      rw [hn]
      exact ask (e9 :: es) l 0 h
end Go.Hw

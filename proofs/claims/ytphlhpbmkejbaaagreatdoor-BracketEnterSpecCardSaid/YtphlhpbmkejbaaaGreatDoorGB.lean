import Derived.Test.YtphlhpbmkejbaaaGreatDoorGA
import Derived.Test.YtphlhpbmkejbaaaGreatDoorHC
import Derived.Test.YtphlhpbmkejbaaaGreatDoorJSh
import Derived.Lib.ItoaLen
set_option linter.unusedVariables false
set_option linter.unusedSimpArgs false
set_option maxRecDepth 100000
set_option maxHeartbeats 4000000
namespace Go.Hw
open Go
attribute [local irreducible] GO GOl GDp Val Fn Res CellsAt ValE Blk OwnS MapA OwnPf Has
open Go.Proofs (Tryz.prog)
end Go.Hw
set_option linter.unusedVariables false
set_option linter.unusedSimpArgs false
set_option maxRecDepth 100000
set_option maxHeartbeats 4000000
namespace Go.Hw
open Go
attribute [local irreducible] GO GOl GDp Val Fn Res CellsAt ValE Blk OwnS MapA OwnPf Has
open Go.Proofs (Tryz.prog)
def PowG (h : Ro) : Prop:=VarG Tryz.prog h "internal/strconv.uint64pow10" (Lib.pow10Tab.map fun z => .int .u64 z)
theorem PowG.le {h h' : Ro} (g : PowG h) (hl : Le h h') : PowG h':=VarG.le g hl
theorem CellsAt.pre {h : Ro} {ad : Addr} {vs us : List Value} (c : CellsAt h ad (vs ++ us)) : CellsAt h ad vs:=by
  unfold CellsAt at c ⊢
  exact fun j v e => c j v (by rw [List.getElem?_append_left (List.getElem?_eq_some_iff.1 e).1];exact e)
end Go.Hw
set_option linter.unusedVariables false
set_option linter.unusedSimpArgs false
set_option maxRecDepth 100000
set_option maxHeartbeats 4000000
namespace Go.Hw
open Go
attribute [local irreducible] GO GOl GDp Val Fn Res CellsAt ValE Blk OwnS MapA OwnPf Has
open Go.Proofs (Tryz.prog)
structure Va where
  k : Int
  n : Int
  s : List UInt8
  L : Sli
  K : Sli
def vaC (v : Va) : List Value:=[.int .i64 v.k,.int .i64 v.n,.string (str v.s),.slice v.L.A v.L.n v.L.c,.slice v.K.A v.K.n v.K.c]
def encS7 (s : List UInt8) : List Value:=[.string (str s)]
def Zip7 {α β : Type} (P : α → β → Prop) (l : List α) (m : List β) : Prop:=l.length = m.length ∧ ∀ (i : Nat) (a : α) (b : β),l[i]? = some a → m[i]? = some b → P a b
def I64 (n : Int) : Prop:=-9223372036854775808 ≤ n ∧ n ≤ 9223372036854775807
def bDict (ks bss : List (List UInt8)) : List UInt8:=100 :: ((ks.zip bss).flatMap (fun p => bText p.1 ++ p.2) ++ [101])
def bSeq (bss : List (List UInt8)) : List UInt8:=108 :: (bss.flatten ++ [101])
def VEnc : Nat → Ro → Va → List UInt8 → Prop
  | 0,_,_,_ => False
  | d + 1,h,v,bs =>
    (∃ n,v = ⟨1,n,[],sli0,sli0⟩ ∧ I64 n ∧ bs = bInt n) ∨ (∃ s,v = ⟨2,0,s,sli0,sli0⟩ ∧ bs = bText s) ∨
    (∃ L vs bss,v = ⟨3,0,[],L,sli0⟩ ∧ SlOf vaC 5 h L.A L.n vs ∧ Zip7 (VEnc d h) vs bss ∧ L.n ≤ 1000000 ∧ bs = bSeq bss) ∨
    (∃ L K vs bss ks,v = ⟨4,0,[],L,K⟩ ∧ SlOf vaC 5 h L.A L.n vs ∧ Zip7 (VEnc d h) vs bss ∧ SlOf encS7 1 h K.A K.n ks ∧ ks.length = vs.length ∧ (ks.Pairwise fun a b => Op.bytesLess a b = true) ∧ L.n ≤ 1000000 ∧ bs = bDict ks bss)
theorem Zip7.imp {α β : Type} {P Q : α → β → Prop} {l : List α} {m : List β} (z : Zip7 P l m) (h : ∀ a b,P a b → Q a b) : Zip7 Q l m:=⟨z.1,fun i a b h1 h2 => h a b (z.2 i a b h1 h2)⟩
theorem VEnc.le : ∀ {d : Nat} {h h' : Ro} {v : Va} {bs : List UInt8},VEnc d h v bs → Le h h' → VEnc d h' v bs
  | 0,_,_,_,_,e,_ => e.elim
  | d + 1,h,h',v,bs,e,hl => by
    rcases e with e|e|⟨L,vs,bss,e1,e2,e3,e4⟩|⟨L,K,vs,bss,ks,e1,e2,e3,e4,e5,e6,e7⟩
    · exact .inl e
    · exact .inr (.inl e)
    · exact .inr (.inr (.inl ⟨L,vs,bss,e1,e2.le hl,e3.imp fun a b q => VEnc.le q hl,e4⟩))
    · exact .inr (.inr (.inr ⟨L,K,vs,bss,ks,e1,e2.le hl,e3.imp fun a b q => VEnc.le q hl,e4.le hl,e5,e6,e7⟩))
theorem VEnc.kind {d : Nat} {h : Ro} {v : Va} {bs : List UInt8} (e : VEnc d h v bs) : 1 ≤ v.k ∧ v.k ≤ 4:=by
  cases d with
  | zero => exact e.elim
  | succ d =>
    rcases e with ⟨n,rfl,_⟩|⟨s,rfl,_⟩|⟨L,vs,bss,rfl,_⟩|⟨L,K,vs,bss,ks,rfl,_⟩ <;> (constructor <;> (dsimp only;omega))
def wid (k : Int) : Nat:=if k = 1 then 236 else if k = 2 then 238 else if k = 3 then 240 else 241
def wcap (k : Int) (pb : Nat) : List Value:=if k ≤ 2 then [] else [.pointer (some ⟨pb,0,none⟩)]
def wV (k : Int) (pb : Nat) : Value:=.func (.func (wid k)) #[] (wcap k pb).toArray
structure WAt (h : Ro) (pb wb : Nat) : Prop where
  box : CellsAt h ⟨pb,0,none⟩ [.pointer (some ⟨wb,0,none⟩)]
  tab : CellsAt h ⟨wb,0,none⟩ [.nilFunc,wV 1 pb,wV 2 pb,wV 3 pb,wV 4 pb]
theorem WAt.le {h h' : Ro} {pb wb : Nat} (w : WAt h pb wb) (hl : Le h h') : WAt h' pb wb:=⟨w.box.le hl,w.tab.le hl⟩
theorem WAt.at_ {h : Ro} {pb wb : Nat} (w : WAt h pb wb) {k : Int} (h1 : 1 ≤ k) (h2 : k ≤ 4) : CellsAt h ((⟨wb,0,none⟩ : Addr).add (k.toNat * 1)) [wV k pb]:=by
  have hs:=w.tab.shift (k.toNat * 1)
  have : k = 1 ∨ k = 2 ∨ k = 3 ∨ k = 4:=by omega
  rcases this with rfl|rfl|rfl|rfl
  · exact hs.pre (vs:=[wV 1 pb]) (us:=[wV 2 pb,wV 3 pb,wV 4 pb])
  · exact hs.pre (vs:=[wV 2 pb]) (us:=[wV 3 pb,wV 4 pb])
  · exact hs.pre (vs:=[wV 3 pb]) (us:=[wV 4 pb])
  · exact hs.pre (vs:=[wV 4 pb]) (us:=[])
end Go.Hw
set_option linter.unusedVariables false
set_option linter.unusedSimpArgs false
set_option maxRecDepth 100000
set_option maxHeartbeats 4000000
namespace Go.Hw
open Go
attribute [local irreducible] GO GOl GDp Val Fn Res CellsAt ValE Blk OwnS MapA OwnPf Has
open Go.Proofs (Tryz.prog)
end Go.Hw
set_option linter.unusedVariables false
set_option linter.unusedSimpArgs false
set_option maxRecDepth 100000
set_option maxHeartbeats 4000000
namespace Go.Hw
open Go
attribute [local irreducible] GO GOl GDp Val Fn Res CellsAt ValE Blk OwnS MapA OwnPf Has
open Go.Proofs (Tryz.prog)
end Go.Hw

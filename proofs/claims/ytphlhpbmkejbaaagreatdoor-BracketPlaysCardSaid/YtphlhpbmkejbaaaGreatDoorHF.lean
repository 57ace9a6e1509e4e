import Derived.Test.YtphlhpbmkejbaaaGreatDoorHB
import Derived.Test.YtphlhpbmkejbaaaGreatDoorHD
import Derived.Test.YtphlhpbmkejbaaaGreatDoorHC
set_option linter.unusedSimpArgs false
set_option linter.unusedVariables false
namespace Go.Hw
open Go
theorem ValE_lend {Es0 : List Asn} {out : Value} {P : Program} {f : FuncId} {args : Array Value} {h : Ro}
    (hv : ∀ h1 Ds,Le h h1 → Own Es0 Ds h1 → Val P f args h1 out) : ValE P f args Es0 h out:=by
  intro w X0 hle ⟨Ds,hown,hnod,hb⟩
  let h1 : Ro:=fun i => if i ∈ Ds.flatten then mem w i else h i
  have hl1 : Le h h1:=fun i o e => by
    show (if i ∈ Ds.flatten then mem w i else h i) = some o
    by_cases hi : i ∈ Ds.flatten
    · rw [(hb i hi).1] at e;cases e
    · rw [if_neg hi];exact e
  have hl2 : Le h1 (mem w):=fun i o e => by
    have e' : (if i ∈ Ds.flatten then mem w i else h i) = some o:=e
    by_cases hi : i ∈ Ds.flatten
    · rw [if_pos hi] at e';exact e'
    · rw [if_neg hi] at e';exact hle i o e'
  have hA1 : Own Es0 Ds h1:=Own.loc (fun b k => by show mem w b = if b ∈ Ds.flatten then mem w b else h b;rw [if_pos k]) hown
  have hrun:=hv h1 Ds hl1 hA1 w [] hl2 ⟨[],trivial,List.nodup_nil,fun b k => absurd k (by simp)⟩
  refine hrun.mono fun e w' ⟨u,he,Es,h',⟨hu,hE⟩,H⟩ => ?_
  refine ⟨u,he,Es0,h,⟨hu,rfl⟩,?_⟩
  have hkeep : ∀ b ∈ Ds.flatten,mem w b = mem w' b:=fun b k => (H.old b (hb b k).2.2 (by simp)).symm
  refine ⟨H.os,H.tape,H.output,H.size,H.dr,fun i hi _ => H.old i hi (by simp),hl1.trans (H.le.trans H.ro),Le.refl _,fun i o e => .inl e,Ds,Own.loc hkeep hown,hnod,fun b k => ?_⟩
  obtain ⟨k1,k2,k3⟩:=hb b k
  exact ⟨k1,.inr k2,Nat.lt_of_lt_of_le k3 H.size⟩
theorem Own_row {α : Type} {enc : α → List Value} {e sz n : Nat} {v : Value} {xs : List α} {h : Ro} {Es : List Asn} {Ds : List (List Nat)} (hl : ∀ x,(enc x).length = sz) (hn : xs.length = n) (ho : Own (OwnS e sz v n (xs.flatMap enc) :: Es) Ds h) :
    ∃ A c,v = .slice A n c ∧ n ≤ c ∧ SlOf enc sz h A n xs:=by
  match Ds,ho with
  | D :: Dr,ho => exact OwnS_free' hl hn ho.1
theorem Own_tail {A : Asn} {h : Ro} {Es : List Asn} {Ds : List (List Nat)} (ho : Own (A :: Es) Ds h) : ∃ Dr,Own Es Dr h:=by
  match Ds,ho with
  | D :: Dr,ho => exact ⟨Dr,ho.2⟩
theorem Own_blk {b : Nat} {T : TypeId} {cs : List Value} {h : Ro} {Es : List Asn} {Ds : List (List Nat)} (ho : Own (Blk b T cs :: Es) Ds h) : CellsAt h ⟨b,0,none⟩ cs:=by
  match Ds,ho with
  | D :: Dr,ho =>
    have hb : h b = some (.cells cs.toArray T (0,0)):=ho.1.2
    exact blk_at hb
theorem ValE_row {α : Type} {enc : α → List Value} {e sz n : Nat} {v out : Value} {xs : List α} {P : Program} {f : FuncId} {args : Array Value} {h : Ro} (hl : ∀ x,(enc x).length = sz) (hn : xs.length = n)
    (hv : ∀ A c h1,Le h h1 → v = .slice A n c → n ≤ c → SlOf enc sz h1 A n xs → Val P f args h1 out) : ValE P f args [OwnS e sz v n (xs.flatMap enc)] h out :=
  ValE_lend fun h1 Ds hl1 ho => by
    obtain ⟨A,c,e1,e2,e3⟩:=Own_row hl hn ho
    exact hv A c h1 hl1 e1 e2 e3
theorem stepR_scope {P : Program} {b : Frame} {a : Act} {k : List Item} {cs : List Frame} {w : World} {c : Code} : step P (lone (b.atR a (.code (.scope c) :: k)) cs w) = .next (lone (b.atR a (.code c :: .inScope c :: k)) cs w) :=
  step_lone_go (by simp [stepG,stepG.exec,Frame.atR])
theorem GO_scope {C : Ctx} {ds : List Deferred} {l : Sl} {Es : List Asn} {h : Ro} {K : List Item} {c : Code} (g : GO C ds l Es h (.code c :: .inScope c :: K)) : GO C ds l Es h (.code (.scope c) :: K):=fun a w s => Todo.step (fun _ _ _ => .one trivial stepR_scope) (g a w s)
theorem Fn.form {P : Program} {f : FuncId} {args : Array Value} {Es0 : List Asn} {h : Ro} {e sz n : Nat} {xs : List Value} (hf : Fn P f args Es0 h fun u Es _ => Es = [OwnS e sz u n xs]) : Fn P f args Es0 h fun u Es _ => ∃ A c,u = .slice A n c ∧ Es = [OwnS e sz (.slice A n c) n xs]:=fun w X0 hl ho =>
  (hf w X0 hl ho).mono fun ed w' ⟨v,he,Es,h',hP,H⟩ => by
    subst hP
    obtain ⟨D,hA⟩:=H.get (List.mem_singleton_self _)
    obtain ⟨A,c,e1⟩:=OwnS_form hA
    subst e1
    exact ⟨_,he,_,h',⟨A,c,rfl,rfl⟩,H⟩
theorem Fn.formB {P : Program} {f : FuncId} {args : Array Value} {Es0 : List Asn} {h : Ro} {e sz n : Nat} {xs : List Value} (h0 : 0 < n) (hf : Fn P f args Es0 h fun u Es _ => Es = [OwnS e sz u n xs]) : Fn P f args Es0 h fun u Es _ => ∃ b c,n ≤ c ∧ u = .slice (some ⟨b,0,none⟩) n c ∧ Es = [OwnS e sz (.slice (some ⟨b,0,none⟩) n c) n xs]:=fun w X0 hl ho =>
  (hf w X0 hl ho).mono fun ed w' ⟨v,he,Es,h',hP,H⟩ => by
    subst hP
    obtain ⟨D,hA⟩:=H.get (List.mem_singleton_self _)
    obtain ⟨hl0,hr⟩:=hA
    rcases hr with ⟨k0,k1,_⟩|⟨g,cap,cur,h2,h3,h4,h5,_⟩
    · omega
    · subst h2
      exact ⟨_,he,_,h',⟨g,cap,h5,rfl,rfl⟩,H⟩
theorem OpTo_valT {C : Ctx} {l : Sl} {h : Ro} {ty : TypeId} {pos : String} {aft : Array Edge} {gd : Option (Nat × Bool)} {dst : Option Tmp} {G : Value → List Asn → Ro → Prop} {Es Es0 Fs : List Asn} {xs : Array Operand} {tys : Array TypeId} {f : FuncId} {vs : List Value} {v : Value}
    (hxs : evlL l xs.toList = some vs) (hh : Has C.P f) (hf : ValE C.P f vs.toArray Es0 h v) (hT : Takes Es Es0 Fs) (g : G v (Es0 ++ Fs) h) : OpTo C l Es h ⟨dst,.call ⟨.value (.func f),xs,tys⟩,ty,pos,aft,gd⟩ G :=
  OpTo_perm hT.perm (OpTo_valE (Fs:=Fs) rfl hxs hh hf g)
section
variable {C : Ctx} {l : Sl} {h : Ro} {ty : TypeId} {pos : String} {aft : Array Edge} {gd : Option (Nat × Bool)}
theorem OV_slice3 {x y y2 y3 : Operand} {t e : TypeId} {k k2 k3 : IntKind} {i i2 i3 : Int} {lo hi mx n c : Nat} {A : Option Addr} {T E : Ty} {dst : Option Tmp} (hT : tyOf t C.ts = some T) (hTd : T.desc = .slice e) (hE : tyOf e C.ts = some E)
    (hx : evl l x = some (.slice A n c)) (hy : evl l y = some (.int k i)) (hy2 : evl l y2 = some (.int k2 i2)) (hy3 : evl l y3 = some (.int k3 i3)) (hi1 : i = (lo : Int)) (hi2 : i2 = (hi : Int)) (hi3 : i3 = (mx : Int)) (hlo : lo ≤ hi) (hhi : hi ≤ mx) (hmx : mx ≤ c) :
    OV C l [] h ⟨dst,.slice t x (some y) (some y2) (some y3),ty,pos,aft,gd⟩ (.slice (sliceA A mx lo E.size) (hi - lo) (mx - lo)) :=
  ⟨rfl,fun a w hsl _ _ => by
    obtain ⟨D0,hu,hb0⟩:=C.ok.und hT
    rw [hTd] at hb0
    rw [blank_slice hb0] at hu
    have e1 : a.eval x = .slice A n c:=hsl.eval hx
    have e2 : a.eval y = .int k i:=hsl.eval hy
    have e3 : a.eval y2 = .int k2 i2:=hsl.eval hy2
    have e4 : a.eval y3 = .int k3 i3:=hsl.eval hy3
    simp only [execOp,Instr.sliceAt,Sem.run_bind,run_underlying hu,Result.andThen_ok,Instr.slice,e1,e2,e3,e4,Option.map_some,Option.map_none,Instr.sliceBounds,Sem.run_pure,run_sliceBound hi3 hmx,run_sliceBound hi2 hhi,run_sliceBound hi1 hlo,C.ok.run_size hE,Bool.false_eq_true,if_false,if_true,Option.isSome_none,Option.isSome_some,sliceA]⟩
theorem SlOf.mid {α : Type} {enc : α → List Value} {sz : Nat} {h : Ro} {A : Option Addr} {n : Nat} {xs : List α} (hs : SlOf enc sz h A n xs) {lo hi mx : Nat} (hlo : lo ≤ hi) (hhi : hi ≤ n) (hmx : hi ≤ mx) : SlOf enc sz h (sliceA A mx lo sz) (hi - lo) ((xs.drop lo).take (hi - lo)):=by
  have h1:=hs.high (hi:=hi) (c:=n) hhi (Nat.le_refl _)
  have e : sliceH A n sz = A:=by
    unfold sliceH
    split
    · rfl
    · cases A <;> simp [Addr.add]
  rw [e] at h1
  have h2:=h1.low (lo:=lo) (c:=mx) hlo hmx
  rw [List.drop_take] at h2
  exact h2
end
end Go.Hw
set_option linter.unusedVariables false
namespace Go.Hw
open Go
section
variable {C : Ctx} {ds : List Deferred} {l : Sl} {Es : List Asn} {h : Ro} {K : List Item} {G : Value → List Asn → Ro → Prop} {ty : TypeId} {pos : String} {aft : Array Edge} {gd : Option (Nat × Bool)} {dst : Option Tmp} {d : Tmp}
theorem OV_ldSf {α : Type} {enc : α → List Value} {t e sz f : Nat} {x : Operand} {b k n c : Nat} {xs : List α} {ad : Addr} {y : α} {v : Value} {T : Ty} (hT : tyOf t C.ts = some T) (hx : evl l x = some (.pointer (some ad))) (had : ad = ⟨b,k * sz + f,none⟩) (hl : ∀ x,(enc x).length = sz)
    (hy : xs[k]? = some y) (hv : pvPart 0 T.size T.agg ((enc y).drop f) = some v) : OV C l [OwnS e sz (.slice (some ⟨b,0,none⟩) n c) n (xs.flatMap enc)] h ⟨dst,.load t x,ty,pos,aft,gd⟩ v:=by
  subst had
  exact OV_load hx (Lv_own hT hv fun j u hj => by
    rw [List.getElem?_drop] at hj
    have:=flat_get7 hl xs k (f + j) y u hy hj
    rw [← Nat.add_assoc] at this
    exact this)
theorem OpTo_stSf {α : Type} {enc : α → List Value} {t e sz f : Nat} {x y : Operand} {b k n c : Nat} {v : Value} {xs : List α} {ad : Addr} {y0 z : α} {Es' : List Asn} {T : Ty}
    (hT : tyOf t C.ts = some T) (hx : evl l x = some (.pointer (some ad))) (had : ad = ⟨b,k * sz + f,none⟩) (hy : evl l y = some v) (hl : ∀ x,(enc x).length = sz) (hy0 : xs[k]? = some y0)
    (hz : enc z = (enc y0).take f ++ partL v ++ (enc y0).drop (f + (partL v).length)) (hf : f + (partL v).length ≤ sz)
    (hR : Repl Es (OwnS e sz (.slice (some ⟨b,0,none⟩) n c) n (xs.flatMap enc)) (OwnS e sz (.slice (some ⟨b,0,none⟩) n c) n ((xs.set k z).flatMap enc)) Es')
    (hs : Nat.beq (partL v).length T.size = true) (h1 : allOne (partL v) = true) (g : G undef Es' h) : OpTo C l Es h ⟨none,.store t x y,ty,pos,aft,gd⟩ G:=by
  subst had
  have hfl:=flatMap_len hl xs
  have hk : k < xs.length:=(List.getElem?_eq_some_iff.1 hy0).1
  have hself : xs.set k y0 = xs:=by
    apply List.ext_getElem?
    intro i
    rw [List.getElem?_set]
    split
    · rename_i e;subst e;exact hy0.symm
    · rfl
  have e0:=flat_set7 hl xs k y0 hk
  rw [hself] at e0
  have e1:=flat_set7 hl xs k z hk
  have hlt : ((xs.flatMap enc).take (k * sz)).length = k * sz:=by
    rw [List.length_take,hfl]
    have : k * sz ≤ xs.length * sz:=Nat.mul_le_mul_right _ (Nat.le_of_lt hk)
    omega
  refine OpTo_storeS hT hx hy hR ?_ ?_ hs h1 g
  · rw [e1,hz]
    generalize (xs.flatMap enc).take (k * sz) = A at *
    generalize (xs.flatMap enc).drop (k * sz + sz) = B at *
    have hy1:=hl y0
    generalize enc y0 = Y at *
    rw [e0]
    generalize partL v = V at *
    have t1 : (A ++ Y ++ B).take (k * sz + f) = A ++ Y.take f:=by
      rw [List.append_assoc,List.take_append,hlt,show k * sz + f - k * sz = f by omega,List.take_of_length_le (by omega),List.take_append_of_le_length (by omega)]
    have t2 : (A ++ Y ++ B).drop (k * sz + f + V.length) = Y.drop (f + V.length) ++ B:=by
      rw [List.append_assoc,List.drop_append,hlt,List.drop_of_length_le (by omega),List.nil_append,show k * sz + f + V.length - k * sz = f + V.length by omega,List.drop_append_of_le_length (by omega)]
    rw [t1,t2]
    simp only [List.append_assoc]
  · rw [hfl]
    have : (k + 1) * sz ≤ xs.length * sz:=Nat.mul_le_mul_right _ hk
    rw [Nat.succ_mul] at this
    omega
end
end Go.Hw

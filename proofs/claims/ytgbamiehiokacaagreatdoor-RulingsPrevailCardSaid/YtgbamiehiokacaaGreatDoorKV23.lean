import Derived.Test.YtgbamiehiokacaaGreatDoorKV15
set_option linter.unusedVariables false
set_option linter.unusedSimpArgs false
set_option maxRecDepth 100000
set_option maxHeartbeats 8000000
namespace Go.Hw
open Go
def Mt (r : FRul) (f : Fct) : Prop:=f.kind = 4 ∧ f.ru = r ∧ FctOk f
def OwnAt (L : List (Fsh × Fct)) (r : FRul) (k : Nat) (o : Fsh × Fct) : Prop:=(o = p0 ∧ ∀ p ∈ L.take k,¬ Mt r p.2) ∨ (o ∈ L ∧ Mt r o.2 ∧ ∀ p ∈ L.take k,Mt r p.2 → ¬ LtF p.2 o.2)
theorem own_zero (L : List (Fsh × Fct)) (r : FRul) : OwnAt L r 0 p0:=.inl ⟨rfl,by simp⟩
theorem own_skip {L : List (Fsh × Fct)} {r : FRul} {k : Nat} {o p : Fsh × Fct} (et : L.take (k + 1) = L.take k ++ [p]) (h : OwnAt L r k o) (hp : ¬ Mt r p.2) : OwnAt L r (k + 1) o:=by
 rcases h with ⟨h1,h2⟩|⟨h1,h2,h3⟩
 · refine .inl ⟨h1,fun q hq => ?_⟩
   rw [et,List.mem_append,List.mem_singleton] at hq
   rcases hq with hq|rfl
   · exact h2 q hq
   · exact hp
 · refine .inr ⟨h1,h2,fun q hq => ?_⟩
   rw [et,List.mem_append,List.mem_singleton] at hq
   rcases hq with hq|rfl
   · exact h3 q hq
   · exact fun w => absurd w hp
theorem own_new {L : List (Fsh × Fct)} {r : FRul} {k : Nat} {p : Fsh × Fct} (et : L.take (k + 1) = L.take k ++ [p]) (h : ∀ p ∈ L.take k,¬ Mt r p.2) (hm : p ∈ L) (hp : Mt r p.2) : OwnAt L r (k + 1) p:=by
 refine .inr ⟨hm,hp,fun q hq => ?_⟩
 rw [et,List.mem_append,List.mem_singleton] at hq
 rcases hq with hq|rfl
 · exact fun w => absurd w (h q hq)
 · exact fun _ => LtF.irrefl _
theorem own_less {L : List (Fsh × Fct)} {r : FRul} {k : Nat} {o p : Fsh × Fct} (et : L.take (k + 1) = L.take k ++ [p]) (h : ∀ p ∈ L.take k,Mt r p.2 → ¬ LtF p.2 o.2) (hm : p ∈ L) (hp : Mt r p.2) (hl : LtF p.2 o.2) : OwnAt L r (k + 1) p:=by
 refine .inr ⟨hm,hp,fun q hq => ?_⟩
 rw [et,List.mem_append,List.mem_singleton] at hq
 rcases hq with hq|rfl
 · exact fun w e => h q hq w (e.trans hl)
 · exact fun _ => LtF.irrefl _
theorem own_keep {L : List (Fsh × Fct)} {r : FRul} {k : Nat} {o p : Fsh × Fct} (et : L.take (k + 1) = L.take k ++ [p]) (ho : o ∈ L) (hr : Mt r o.2) (h : ∀ p ∈ L.take k,Mt r p.2 → ¬ LtF p.2 o.2) (hl : ¬ LtF p.2 o.2) : OwnAt L r (k + 1) o:=by
 refine .inr ⟨ho,hr,fun q hq => ?_⟩
 rw [et,List.mem_append,List.mem_singleton] at hq
 rcases hq with hq|rfl
 · exact h q hq
 · exact fun _ => hl
theorem Kr {l : List (Fsh × Fct)} (h32 : In32 (fcs l)) (f : Fct) : f ∈ canonL (fcs l) ↔ (∃ s,(s,f) ∈ l) ∧ FctOk f:=by
 rw [(Cp (fcs l) h32).2 f]
 refine and_congr_left fun _ => ?_
 unfold fcs
 rw [List.mem_map]
 exact ⟨fun ⟨p,h,e⟩ => ⟨p.1,by rw [← e];exact h⟩,fun ⟨s,h⟩ => ⟨(s,f),h,rfl⟩⟩
theorem own_end {l : List (Fsh × Fct)} (h32 : In32 (fcs l)) {f : Fct} (hf : f ∈ forceL (canonL (fcs l))) {o : Fsh × Fct} (h : OwnAt l f.ru l.length o) : o ∈ l ∧ o.2 = f:=by
 have hs:=(Cp (fcs l) h32).1
 obtain ⟨h1,h2,h3,h4,h5⟩:=Ga hf
 obtain ⟨⟨s,h6⟩,h7⟩:=(Kr h32 f).1 h1
 unfold OwnAt at h
 rw [List.take_length] at h
 rcases h with ⟨_,q⟩|⟨q1,q2,q3⟩
 · exact absurd ⟨h2,rfl,h7⟩ (q (s,f) h6)
 · exact ⟨q1,Ya hs hf ((Kr h32 o.2).2 ⟨⟨o.1,q1⟩,q2.2.2⟩) q2.1 q2.2.1 (q3 (s,f) h6 ⟨h2,rfl,h7⟩)⟩
theorem force_ru {C : List Fct} {k : Nat} (hk : k < ((forceL C).map (·.ru)).length) : ∃ f,f ∈ forceL C ∧ ((forceL C).map (·.ru)).getD k rul0 = f.ru ∧ ofR C f.ru.case = some f.ru:=by
 have hm:=Fp rul0 hk
 obtain ⟨f,hf,e⟩:=List.mem_map.1 hm
 refine ⟨f,hf,e.symm,?_⟩
 unfold ofR
 rw [Sn.2 ⟨hf,rfl⟩];rfl
theorem force_lt {C : List Fct} {k : Nat} (h0 : 0 < k) (hk : k < ((forceL C).map (·.ru)).length) : (((forceL C).map (·.ru)).getD (k - 1) rul0).case < (((forceL C).map (·.ru)).getD k rul0).case:=by
 have hp : ((forceL C).map (·.ru)).Pairwise (fun a b => a.case < b.case):=by
  rw [List.pairwise_map]
  exact Mh C
 have:=List.pairwise_iff_getElem.1 hp (k - 1) k (by omega) hk (by omega)
 rw [List.getD_eq_getElem?_getD,List.getD_eq_getElem?_getD,List.getElem?_eq_getElem (show k - 1 < _ by omega),List.getElem?_eq_getElem hk]
 exact this
theorem of_held {C : List Fct} (hok : ∀ f ∈ C,FctOk f) {f : Fct} (hf : f ∈ C) (hk : f.kind = 4) : (ofR C f.ru.case).isSome = !decide (HeldI C f.ru.case):=by
 have:=Cma hok hf hk
 have e : (ofR C f.ru.case).isSome = (ofL C f.ru.case).isSome:=by unfold ofR;cases ofL C f.ru.case <;> rfl
 rw [e]
 by_cases hh : HeldI C f.ru.case
 · rw [decide_eq_true hh]
   cases hq : (ofL C f.ru.case).isSome with
   | false => rfl
   | true => exact absurd hh (this.1 hq)
 · rw [decide_eq_false hh]
   rw [this.2 hh];rfl
end Go.Hw

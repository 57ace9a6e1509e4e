import Derived.Test.YtphlhpbmkejbaaaGreatDoorHB
import Derived.Below
import Derived.Carry
import Derived.OpenShut
import Derived.ChangeSame
import Derived.ProofKit
import Derived.WalkKit
import Derived.Deep.Slices
set_option linter.unusedSimpArgs false
set_option linter.unusedVariables false
namespace Go.Hw
open Go Go.ChangeShapes Go.WideShapes Go.RowKit
def Rd (P : Program) (w : World) (t : TypeId) (cs : List Value) : Prop :=
  ∃ (H : Type) (enc : TypeId × Value → H) (fuel : Nat) (x : DataW H × List MemPlace),DataW.trod enc P w 0 (fun _ => true) true fuel t cs = some x
section
variable {P : Program} {w : World} {t : TypeId} {cs : List Value}
theorem Rd_int {k : IntKind} (ht : P.underlying t = some (.int k)) (h : Rd P w t cs) : ∃ n,cs = [.int k n] ∧ (Lit.int k n).wf = true:=by
  obtain ⟨H,enc,f,x,h⟩:=h
  obtain ⟨n,h1,_,h2⟩:=DataW.trod_int ht h
  exact ⟨n,h1,h2⟩
theorem Rd_bool (ht : P.underlying t = some .bool) (h : Rd P w t cs) : ∃ b,cs = [.bool b]:=by
  obtain ⟨H,enc,f,x,h⟩:=h
  obtain ⟨n,h1,_⟩:=DataW.trod_bool ht h
  exact ⟨n,h1⟩
theorem Rd_struct {fs : Array Field} (ht : P.underlying t = some (.struct fs)) (h : Rd P w t cs) :
    cs.length = P.cellsOf t ∧ ∀ (i : Nat) (f : Field),fs[i]? = some f → Rd P w f.type ((cs.drop f.offset).take (P.cellsOf f.type)):=by
  obtain ⟨H,enc,fu,x,h⟩:=h
  obtain ⟨xs,n,_,_,hl,hx,hf⟩:=DataW.trod_struct ht h
  refine ⟨hl,fun i f hi => ?_⟩
  have hlt : i < xs.length:=by
    have:=(Array.getElem?_eq_some_iff.1 hi).1
    omega
  exact ⟨H,enc,n,xs[i],by rw [hf i f hi,List.getElem?_eq_getElem hlt]⟩
theorem CellsAt_of_cells? {base n : Nat} {a : Addr} (h : w.cells? base a n = some cs) : CellsAt (mem w) a cs:=fun j v e => by
  obtain ⟨_,hl,hc⟩:=World.cells?_some h
  rw [← cell?_mem,hc j (by have:=(List.getElem?_eq_some_iff.1 e).1;omega)];exact e
theorem Rd_sliceC {e : TypeId} (ht : P.underlying t = some (.slice e)) (h : Rd P w t cs) :
    cs = [.slice none 0 0] ∨ ∃ (a : Addr) (n c : Nat),cs = [.slice (some a) n c] ∧ n ≤ c ∧ c ≤ maxLen ∧
      ∀ i,i < n → ∃ us,CellsAt (mem w) (a.add (i * P.cellsOf e)) us ∧ Rd P w e us:=by
  obtain ⟨H,enc,fu,x,h⟩:=h
  rcases Go.Deep.open_slice ht h with ⟨h1,_⟩|⟨a,len,cap,m,n,D,Pl,h1,_,h2,h3,h4,_,h5⟩
  · exact .inl h1
  · refine .inr ⟨a,len,cap,h1,h2,h3,fun i hi => ?_⟩
    obtain ⟨us,h6,h7⟩:=h5 i (by rw [h4];split <;> omega)
    exact ⟨us,CellsAt_of_cells? h6,H,enc,n,_,h7⟩
theorem Rd_slice {α : Type} {enc : α → List Value} {sz : Nat} {e : TypeId} (ht : P.underlying t = some (.slice e)) (hz : P.cellsOf e = sz) (he : ∀ us,Rd P w e us → ∃ x,us = enc x) (h : Rd P w t cs) :
    ∃ A n c xs,cs = [.slice A n c] ∧ n ≤ c ∧ c ≤ maxLen ∧ SlOf enc sz (mem w) A n xs:=by
  rcases Rd_sliceC ht h with h1|⟨a,n,c,h1,h2,h3,h4⟩
  · exact ⟨none,0,0,[],h1,Nat.le_refl _,Nat.zero_le _,SlOf.nil⟩
  · rcases Nat.eq_zero_or_pos n with h0|h0
    · subst h0
      exact ⟨some a,0,c,[],h1,h2,h3,SlOf.nil⟩
    · obtain ⟨us0,_,h6⟩:=h4 0 h0
      obtain ⟨x0,_⟩:=he us0 h6
      have hx : ∀ i,∃ x,i < n → CellsAt (mem w) (a.add (i * sz)) (enc x):=fun i => by
        by_cases hi : i < n
        · obtain ⟨us,h5,h6⟩:=h4 i hi
          obtain ⟨x,rfl⟩:=he us h6
          exact ⟨x,fun _ => hz ▸ h5⟩
        · exact ⟨x0,fun h => absurd h hi⟩
      obtain ⟨f,hf⟩:=Classical.axiomOfChoice hx
      refine ⟨some a,n,c,(List.range n).map f,h1,h2,h3,by simp,fun _ => ⟨a,rfl,fun j x hj => ?_⟩⟩
      obtain ⟨hl,rfl⟩:=List.getElem?_eq_some_iff.1 hj
      simp at hl
      simpa using hf j hl
end
theorem Rd_of {P : Program} {w : World} {t : TypeId} {H : Type} {enc : TypeId × Value → H} {v : Value} {d : DataW H} {ps : List MemPlace} (h : DataW.Trod enc P w 0 (fun _ => true) true t v d ps) : Rd P w t v.cells.toList :=
  let ⟨n,h⟩:=h
  ⟨H,enc,n,_,h⟩
theorem trodAll_stays {H : Type} {enc : TypeId × Value → H} {P : Program} (hl : laidOutB P = true) {W W' : World} {sp : Nat → Bool} : ∀ {ts : List TypeId} {vs : List Value} {ds : List (DataW H)} {ps : List MemPlace},
    (∀ t ∈ ts,P.readableRec t = true ∧ t < P.types.size) → DataW.TrodAll enc P W 0 (fun _ => true) true ts vs ds ps → (∀ p ∈ ps,W.sameAt W' p) → (∀ p ∈ ps,sp p.block = true) → DataW.TrodAll enc P W' 0 sp true ts vs ds ps
  | [],_,_,_,_,h,_,_ => by
    obtain ⟨rfl,rfl,rfl⟩:=trodAll_nil h
    exact trodAll_mk0
  | t :: ts,_,_,_,ht,h,hs,hp => by
    obtain ⟨v,vs,d,ds,p,q,rfl,rfl,rfl,h1,h2⟩:=trodAll_cons h
    have:=ht t (by simp)
    exact ⟨p,q,WideElems.Trod_stays hl this.1 this.2 h1 (fun x hx => hs x (by simp [hx])) (fun x hx => hp x (by simp [hx])),
      trodAll_stays hl (fun u hu => ht u (by simp [hu])) h2 (fun x hx => hs x (by simp [hx])) (fun x hx => hp x (by simp [hx])),rfl⟩
theorem Hp.below {W w : World} {h0 h : Ro} {Es : List Asn} (H : Hp W [] h0 Es h w) : Below W.heap.size W w :=
  ⟨H.os,H.tape,H.output,H.size,fun k hk => H.old k hk (by simp)⟩
theorem mayRead {P : Program} {ts : List TypeId} (h : ts.all (fun t => P.readableRec t && decide (t < P.types.size)) = true) : ∀ t ∈ ts,P.readableRec t = true ∧ t < P.types.size:=by
  simpa using h
theorem law_row {H : Type} {enc : TypeId × Value → H} {P : Program} {f : FuncId} {fn : Func} {s : ChangeSpec} {apart fresh handsOn : Bool} {W : World} {args : Array Value} {ds gs : List (DataW H)} {before : List MemPlace} {tb : TypeId}
    (hl : laidOutB P = true) (hr : fn.params.toList.all (fun t => P.readableRec t && decide (t < P.types.size)) = true) (hres : fn.resultTypes = #[tb]) (htb : P.underlying tb = some .bool) (hvs : s.vars = [])
    (hfn : s.fn H (ds ++ gs) = { results:=[.lit (.bool true)],args:=ds })
    (hW : DataW.Whole enc P fn.params.toList s.vars apart W args.toList ds gs before) (hV : Val P f args (mem W) (.bool true)) :
    Calls P f args W fun e W' => ∃ v,e = .returned v ∧ s.post enc P fn apart fresh handsOn false W args v W':=by
  obtain ⟨p,q,hA,hG,rfl,hfz,hnd⟩:=id hW
  rw [hvs] at hG
  obtain ⟨rfl,rfl⟩:=trodVars_none hG
  refine (hV W [] (Le.refl _) ⟨[],trivial,by simp,by simp⟩).mono fun e W' ⟨v,he,Es,h',⟨hv,_⟩,hH⟩ => ?_
  subst hv
  have hB:=hH.below
  have hlt : ∀ x ∈ p,x.block < W.heap.size:=fun x hx => by simpa using hW.lt x (by simp [hx])
  refine ⟨_,he,ds,[],p ++ [],[],p,[],hW,?_,?_,?_,hB.frame _,fun h => by cases h⟩
  · rw [hfn,hres]
    exact trodAll_mk1 (shut_bool htb true)
  · rw [hfn]
    exact trodAll_stays hl (mayRead hr) hA (fun x hx => hB.same (hlt x hx)) (fun x hx => by simpa using hlt x hx)
  · rw [hfn,hvs]
    exact rfl
end Go.Hw

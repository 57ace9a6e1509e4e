import Derived.Test.YtphlhpbmkejbaabGreatDoorHB
import Derived.Below
import Derived.Carry
import Derived.OpenShut
import Derived.ChangeSame
import Derived.ProofKit
import Derived.WalkKit
import Derived.Deep.Slices
import Derived.Test.YtphlhpbmkejbaabGreatDoorGC
import Derived.Test.YtphlhpbmkejbaabGreatDoorEB
import Derived.Test.YtphlhpbmkejbaabGreatDoorRows
import Derived.Test.YtphlhpbmkejbaabGreatDoorTie
import Derived.Test.YtphlhpbmkejbaabGreatDoorCards
import Derived.LaidMore
import Derived.Stop.Joined
import Derived.SevenTiedAt
set_option linter.unusedSimpArgs false
set_option linter.unusedVariables false
namespace Go.Hw
open Go Go.ChangeShapes Go.WideShapes Go.RowKit
def Rd (P : Program) (w : World) (t : TypeId) (cs : List Value) : Prop :=
  ∃ (H : Type) (enc : TypeId × Value → H) (fuel : Nat) (x : DataW H × List MemPlace),DataW.trod enc P w 0 (fun _ => true) true fuel t cs = some x
section
variable {P : Program} {w : World} {t : TypeId} {cs : List Value}
theorem Rd_int {k : IntKind} (ht : P.underlying t = some (.int k)) (h : Rd P w t cs) : ∃ n,cs = [.int k n] ∧ (Lit.int k n).wf = true:=by
  obtain ⟨H,enc,f,x,h⟩:=h
  obtain ⟨n,h1,_,h2⟩:=DataW.trod_int ht h
  exact ⟨n,h1,h2⟩
theorem take_one {cs : List Value} {o : Nat} {v : Value} (h : (cs.drop o).take 1 = [v]) : cs[o]? = some v:=by
  have:=congrArg (·[0]?) h
  simpa [List.getElem?_take,List.getElem?_drop] using this
theorem Rd_bool (ht : P.underlying t = some .bool) (h : Rd P w t cs) : ∃ b,cs = [.bool b]:=by
  obtain ⟨H,enc,f,x,h⟩:=h
  obtain ⟨n,h1,_⟩:=DataW.trod_bool ht h
  exact ⟨n,h1⟩
theorem Rd_string (ht : P.underlying t = some .string) (h : Rd P w t cs) : ∃ s : ByteArray,cs = [.string s] ∧ s.size ≤ maxLen:=by
  obtain ⟨H,enc,f,x,h⟩:=h
  obtain ⟨n,h1,_,h2⟩:=DataW.trod_string ht h
  exact ⟨n,h1,h2⟩
theorem Rd_struct {fs : Array Field} (ht : P.underlying t = some (.struct fs)) (h : Rd P w t cs) :
    cs.length = P.cellsOf t ∧ ∀ (i : Nat) (f : Field),fs[i]? = some f → Rd P w f.type ((cs.drop f.offset).take (P.cellsOf f.type)):=by
  obtain ⟨H,enc,fu,x,h⟩:=h
  obtain ⟨xs,n,_,_,hl,hx,hf⟩:=DataW.trod_struct ht h
  refine ⟨hl,fun i f hi => ?_⟩
  have hlt : i < xs.length:=by
    have:=(Array.getElem?_eq_some_iff.1 hi).1
    omega
  exact ⟨H,enc,n,xs[i],by rw [hf i f hi,List.getElem?_eq_getElem hlt]⟩
theorem Rd_array {n : Nat} {e : TypeId} (ht : P.underlying t = some (.array n e)) (h : Rd P w t cs) :
    cs.length = P.cellsOf t ∧ ∀ i,i < n → Rd P w e ((cs.drop (i * P.cellsOf e)).take (P.cellsOf e)):=by
  obtain ⟨H,enc,fu,x,h⟩:=h
  obtain ⟨xs,m,_,_,hl,hx,hf⟩:=DataW.trod_array ht h
  refine ⟨hl,fun i hi => ?_⟩
  have hlt : i < xs.length:=by omega
  exact ⟨H,enc,m,xs[i],by rw [hf i hi,List.getElem?_eq_getElem hlt]⟩
theorem CellsAt_of_cells? {base n : Nat} {a : Addr} (h : w.cells? base a n = some cs) : CellsAt (mem w) a cs:=fun j v e => by
  obtain ⟨_,hl,hc⟩:=World.cells?_some h
  rw [← cell?_mem,hc j (by have:=(List.getElem?_eq_some_iff.1 e).1;omega)];exact e
theorem Rd_sliceC {e : TypeId} (ht : P.underlying t = some (.slice e)) (h : Rd P w t cs) :
    cs = [.slice none 0 0] ∨ ∃ (a : Addr) (n c : Nat),cs = [.slice (some a) n c] ∧ n ≤ c ∧ c ≤ maxLen ∧
      ∀ i,i < n → ∃ us,CellsAt (mem w) (a.add (i * P.cellsOf e)) us ∧ Rd P w e us:=by
  obtain ⟨H,enc,fu,x,h⟩:=h
  rcases Go.Deep.open_slice ht h with ⟨h1,_⟩|⟨a,len,cap,m,n,D,Pl,h1,_,h2,h3,h4,_,h5⟩
  · exact .inl h1
  · refine .inr ⟨a,len,cap,h1,h2,h3,fun i hi => ?_⟩
    obtain ⟨us,h6,h7⟩:=h5 i (by rw [h4];split <;> omega)
    exact ⟨us,CellsAt_of_cells? h6,H,enc,n,_,h7⟩
theorem Rd_slice {α : Type} {enc : α → List Value} {sz : Nat} {e : TypeId} (ht : P.underlying t = some (.slice e)) (hz : P.cellsOf e = sz) (he : ∀ us,Rd P w e us → ∃ x,us = enc x) (h : Rd P w t cs) :
    ∃ A n c xs,cs = [.slice A n c] ∧ n ≤ c ∧ c ≤ maxLen ∧ SlOf enc sz (mem w) A n xs:=by
  rcases Rd_sliceC ht h with h1|⟨a,n,c,h1,h2,h3,h4⟩
  · exact ⟨none,0,0,[],h1,Nat.le_refl _,Nat.zero_le _,SlOf.nil⟩
  · rcases Nat.eq_zero_or_pos n with h0|h0
    · subst h0
      exact ⟨some a,0,c,[],h1,h2,h3,SlOf.nil⟩
    · obtain ⟨us0,_,h6⟩:=h4 0 h0
      obtain ⟨x0,_⟩:=he us0 h6
      have hx : ∀ i,∃ x,i < n → CellsAt (mem w) (a.add (i * sz)) (enc x):=fun i => by
        by_cases hi : i < n
        · obtain ⟨us,h5,h6⟩:=h4 i hi
          obtain ⟨x,rfl⟩:=he us h6
          exact ⟨x,fun _ => hz ▸ h5⟩
        · exact ⟨x0,fun h => absurd h hi⟩
      obtain ⟨f,hf⟩:=Classical.axiomOfChoice hx
      refine ⟨some a,n,c,(List.range n).map f,h1,h2,h3,by simp,fun _ => ⟨a,rfl,fun j x hj => ?_⟩⟩
      obtain ⟨hl,rfl⟩:=List.getElem?_eq_some_iff.1 hj
      simp at hl
      simpa using hf j hl
end
theorem Rd_of {P : Program} {w : World} {t : TypeId} {H : Type} {enc : TypeId × Value → H} {v : Value} {d : DataW H} {ps : List MemPlace} (h : DataW.Trod enc P w 0 (fun _ => true) true t v d ps) : Rd P w t v.cells.toList :=
  let ⟨n,h⟩:=h
  ⟨H,enc,n,_,h⟩
theorem trodAll_stays {H : Type} {enc : TypeId × Value → H} {P : Program} (hl : laidOutB P = true) {W W' : World} {sp : Nat → Bool} : ∀ {ts : List TypeId} {vs : List Value} {ds : List (DataW H)} {ps : List MemPlace},
    (∀ t ∈ ts,P.readableRec t = true ∧ t < P.types.size) → DataW.TrodAll enc P W 0 (fun _ => true) true ts vs ds ps → (∀ p ∈ ps,W.sameAt W' p) → (∀ p ∈ ps,sp p.block = true) → DataW.TrodAll enc P W' 0 sp true ts vs ds ps
  | [],_,_,_,_,h,_,_ => by
    obtain ⟨rfl,rfl,rfl⟩:=trodAll_nil h
    exact trodAll_mk0
  | t :: ts,_,_,_,ht,h,hs,hp => by
    obtain ⟨v,vs,d,ds,p,q,rfl,rfl,rfl,h1,h2⟩:=trodAll_cons h
    have:=ht t (by simp)
    exact ⟨p,q,WideElems.Trod_stays hl this.1 this.2 h1 (fun x hx => hs x (by simp [hx])) (fun x hx => hp x (by simp [hx])),
      trodAll_stays hl (fun u hu => ht u (by simp [hu])) h2 (fun x hx => hs x (by simp [hx])) (fun x hx => hp x (by simp [hx])),rfl⟩
theorem Hp.below {W w : World} {h0 h : Ro} {Es : List Asn} (H : Hp W [] h0 Es h w) : Below W.heap.size W w :=
  ⟨H.os,H.tape,H.output,H.size,fun k hk => H.old k hk (by simp)⟩
theorem mayRead {P : Program} {ts : List TypeId} (h : ts.all (fun t => P.readableRec t && decide (t < P.types.size)) = true) : ∀ t ∈ ts,P.readableRec t = true ∧ t < P.types.size:=by
  simpa using h
theorem law_row {H : Type} {enc : TypeId × Value → H} {P : Program} {f : FuncId} {fn : Func} {s : ChangeSpec} {apart fresh handsOn : Bool} {W : World} {args : Array Value} {ds gs : List (DataW H)} {before : List MemPlace} {tb : TypeId}
    (hl : laidOutB P = true) (hr : fn.params.toList.all (fun t => P.readableRec t && decide (t < P.types.size)) = true) (hres : fn.resultTypes = #[tb]) (htb : P.underlying tb = some .bool) (hvs : s.vars = [])
    (hfn : s.fn H (ds ++ gs) = { results:=[.lit (.bool true)],args:=ds })
    (hW : DataW.Whole enc P fn.params.toList s.vars apart W args.toList ds gs before) (hV : Val P f args (mem W) (.bool true)) :
    Calls P f args W fun e W' => ∃ v,e = .returned v ∧ s.post enc P fn apart fresh handsOn false W args v W':=by
  obtain ⟨p,q,hA,hG,rfl,hfz,hnd⟩:=id hW
  rw [hvs] at hG
  obtain ⟨rfl,rfl⟩:=trodVars_none hG
  refine (hV W [] (Le.refl _) ⟨[],trivial,by simp,by simp⟩).mono fun e W' ⟨v,he,Es,h',⟨hv,_⟩,hH⟩ => ?_
  subst hv
  have hB:=hH.below
  have hlt : ∀ x ∈ p,x.block < W.heap.size:=fun x hx => by simpa using hW.lt x (by simp [hx])
  refine ⟨_,he,ds,[],p ++ [],[],p,[],hW,?_,?_,?_,hB.frame _,fun h => by cases h⟩
  · rw [hfn,hres]
    exact trodAll_mk1 (shut_bool htb true)
  · rw [hfn]
    exact trodAll_stays hl (mayRead hr) hA (fun x hx => hB.same (hlt x hx)) (fun x hx => by simpa using hlt x hx)
  · rw [hfn,hvs]
    exact rfl
end Go.Hw
set_option linter.unusedVariables false
set_option maxRecDepth 100000
namespace Go.Hw
open Go Go.ChangeShapes Go.WideShapes Go.RowKit
open Go.Proofs (Tryz.prog)
open Go.Proofs.YtphlhpbmkejbaabGreatDoor (Rows.none)
theorem cutAt {us p : List Value} {o k : Nat} (h : (us.drop o).take k = p) : us.drop o = p ++ us.drop (o + k):=by
  rw [← h,← List.drop_drop,List.take_append_drop]
theorem str_back (s : ByteArray) : ∃ l,s = str l:=⟨s.data.toList,by unfold str;rfl⟩
theorem Rd_sliceP {P : Program} {w : World} {t : TypeId} {cs : List Value} {α : Type} {enc : α → List Value} {sz : Nat} {e : TypeId} {S : α → Prop} (ht : P.underlying t = some (.slice e)) (hz : P.cellsOf e = sz) (he : ∀ us,Rd P w e us → ∃ x,us = enc x ∧ S x) (h : Rd P w t cs) :
    ∃ A n c xs,cs = [.slice A n c] ∧ n ≤ c ∧ c ≤ maxLen ∧ SlOf enc sz (mem w) A n xs ∧ ∀ x ∈ xs,S x:=by
  obtain ⟨A,n,c,xs,h1,h2,h3,h4⟩:=Rd_slice (enc:=fun x : {x : α // S x} => enc x.1) ht hz (fun us hu => by obtain ⟨x,e,hs⟩:=he us hu;exact ⟨⟨x,hs⟩,e⟩) h
  refine ⟨A,n,c,xs.map (·.1),h1,h2,h3,⟨by rw [List.length_map];exact h4.len,fun hk => ?_⟩,fun x hx => ?_⟩
  · obtain ⟨a,ha,hc⟩:=h4.2 hk
    refine ⟨a,ha,fun j x hj => ?_⟩
    rw [List.getElem?_map] at hj
    cases hq : xs[j]? with
    | none => rw [hq] at hj;cases hj
    | some y => rw [hq] at hj;injection hj with hj;rw [← hj];exact hc j y hq
  · obtain ⟨y,_,rfl⟩:=List.mem_map.1 hx
    exact y.2
theorem Rd_at {P : Program} {w : World} {us : List Value} {t : TypeId} {o k : Nat} (hk : P.cellsOf t = k) (h : Rd P w t ((us.drop o).take (P.cellsOf t))) : Rd P w t ((us.drop o).take k):=hk ▸ h
theorem kInt : Tryz.prog.cellsOf 3 = 1:=by kernel_rfl
theorem kBool : Tryz.prog.cellsOf 4 = 1:=by kernel_rfl
theorem kByte : Tryz.prog.cellsOf 5 = 1:=by kernel_rfl
theorem kStr : Tryz.prog.cellsOf 9 = 1:=by kernel_rfl
theorem kInts : Tryz.prog.cellsOf 31 = 1:=by kernel_rfl
theorem kCards : Tryz.prog.cellsOf 32 = 1:=by kernel_rfl
theorem kCard : Tryz.prog.cellsOf 90 = 2:=by kernel_rfl
theorem kGame : Tryz.prog.cellsOf 28 = 4:=by kernel_rfl
theorem kEnt : Tryz.prog.cellsOf 44 = 4:=by kernel_rfl
theorem kFix : Tryz.prog.cellsOf 46 = 5:=by kernel_rfl
theorem kSheet : Tryz.prog.cellsOf 34 = 13:=by kernel_rfl
theorem kIvl : Tryz.prog.cellsOf 48 = 2:=by kernel_rfl
theorem kRul : Tryz.prog.cellsOf 50 = 17:=by kernel_rfl
theorem kApp : Tryz.prog.cellsOf 52 = 3:=by kernel_rfl
theorem kMov : Tryz.prog.cellsOf 54 = 2:=by kernel_rfl
theorem kLot : Tryz.prog.cellsOf 56 = 3:=by kernel_rfl
theorem kDig : Tryz.prog.cellsOf 58 = 32:=by kernel_rfl
theorem kFact : Tryz.prog.cellsOf 60 = 82:=by kernel_rfl
section
variable {w : World} {us : List Value}
theorem rdI (h : Rd Tryz.prog w 3 us) : ∃ n,us = [.int .i64 n]:=by
  obtain ⟨n,e,_⟩:=Rd_int Go.Proofs.Tryz.underlying3 h
  exact ⟨n,e⟩
theorem rdB (h : Rd Tryz.prog w 4 us) : ∃ b,us = [.bool b]:=Rd_bool Go.Proofs.Tryz.underlying4 h
theorem rdStr (h : Rd Tryz.prog w 9 us) : ∃ l,us = [.string (str l)] ∧ l.length ≤ 9223372036854775807:=by
  obtain ⟨s,e,hb⟩:=Rd_string Go.Proofs.Tryz.underlying9 h
  obtain ⟨l,rfl⟩:=str_back s
  unfold maxLen at hb
  exact ⟨l,e,by rw [str_size] at hb;omega⟩
theorem fin4 {a b c d : List Value} (hl : us.length = 4) (h0 : (us.drop 0).take 1 = a) (h1 : (us.drop 1).take 1 = b) (h2 : (us.drop 2).take 1 = c) (h3 : (us.drop 3).take 1 = d) : us = a ++ (b ++ (c ++ (d ++ []))):=by
  have e : us.drop 4 = []:=List.drop_eq_nil_of_le (by omega)
  have:=cutAt h0
  rw [cutAt h1,cutAt h2,cutAt h3,e] at this
  simpa using this
theorem rdGame (h : Rd Tryz.prog w 28 us) : ∃ g,us = gameC g:=by
  obtain ⟨hl,hf⟩:=Rd_struct Go.Proofs.Tryz.underlying28 h
  rw [kGame] at hl
  have f0:=Rd_at (t:=3) (o:=0) kInt (hf 0 _ rfl)
  have f1:=Rd_at (t:=3) (o:=1) kInt (hf 1 _ rfl)
  have f2:=Rd_at (t:=3) (o:=2) kInt (hf 2 _ rfl)
  have f3:=Rd_at (t:=3) (o:=3) kInt (hf 3 _ rfl)
  obtain ⟨a,e0⟩:=rdI f0;obtain ⟨b,e1⟩:=rdI f1;obtain ⟨c,e2⟩:=rdI f2;obtain ⟨d,e3⟩:=rdI f3
  exact ⟨⟨a,b,c,d⟩,fin4 hl e0 e1 e2 e3⟩
theorem rdCard (h : Rd Tryz.prog w 90 us) : ∃ c,us = encC c:=by
  obtain ⟨hl,hf⟩:=Rd_struct Go.Proofs.Tryz.underlying90 h
  rw [kCard] at hl
  have f0:=Rd_at (t:=3) (o:=0) kInt (hf 0 _ rfl)
  have f1:=Rd_at (t:=4) (o:=1) kBool (hf 1 _ rfl)
  obtain ⟨a,e0⟩:=rdI f0;obtain ⟨b,e1⟩:=rdB f1
  refine ⟨⟨a,b⟩,?_⟩
  have e : us.drop 2 = []:=List.drop_eq_nil_of_le (by omega)
  have:=cutAt e0
  rw [cutAt e1,e] at this
  rw [List.drop_zero] at this
  rw [this]
  rfl
theorem rdInts (h : Rd Tryz.prog w 31 us) : ∃ A n c xs,us = [.slice A n c] ∧ n ≤ c ∧ SlOf encI 1 (mem w) A n xs ∧ xs.length ≤ 9223372036854775807:=by
  obtain ⟨A,n,c,xs,e,h1,h3,h2⟩:=Rd_slice (enc:=encI) Go.Proofs.Tryz.underlying31 kInt (fun _ hu => rdI hu) h
  unfold maxLen at h3
  have:=h2.len
  exact ⟨A,n,c,xs,e,h1,h2,by omega⟩
theorem rdCards (h : Rd Tryz.prog w 32 us) : ∃ A n c xs,us = [.slice A n c] ∧ SlOf encC 2 (mem w) A n xs ∧ xs.length ≤ 9223372036854775807:=by
  obtain ⟨A,n,c,xs,e,h1,h3,h2⟩:=Rd_slice (enc:=encC) Go.Proofs.Tryz.underlying32 kCard (fun _ hu => rdCard hu) h
  unfold maxLen at h3
  have:=h2.len
  exact ⟨A,n,c,xs,e,h2,by omega⟩
theorem rdEnt (h : Rd Tryz.prog w 44 us) : ∃ a b A n c xs r,us = [.int .i64 a,.int .i64 b,.slice A n c,.string (str r)] ∧ SlOf encI 1 (mem w) A n xs ∧ xs.length ≤ 9223372036854775807 ∧ r.length ≤ 9223372036854775807:=by
  obtain ⟨hl,hf⟩:=Rd_struct Go.Proofs.Tryz.underlying44 h
  rw [kEnt] at hl
  have f0:=Rd_at (t:=3) (o:=0) kInt (hf 0 _ rfl)
  have f1:=Rd_at (t:=3) (o:=1) kInt (hf 1 _ rfl)
  have f2:=Rd_at (t:=31) (o:=2) kInts (hf 2 _ rfl)
  have f3:=Rd_at (t:=9) (o:=3) kStr (hf 3 _ rfl)
  obtain ⟨a,e0⟩:=rdI f0;obtain ⟨b,e1⟩:=rdI f1;obtain ⟨A,n,c,xs,e2,_,hs,hb⟩:=rdInts f2;obtain ⟨r,e3,hr⟩:=rdStr f3
  exact ⟨a,b,A,n,c,xs,r,fin4 hl e0 e1 e2 e3,hs,hb,hr⟩
theorem rdFix (h : Rd Tryz.prog w 46 us) : ∃ g v,us = gameC g ++ [.int .i64 v]:=by
  obtain ⟨hl,hf⟩:=Rd_struct Go.Proofs.Tryz.underlying46 h
  rw [kFix] at hl
  have f0:=Rd_at (t:=28) (o:=0) kGame (hf 0 _ rfl)
  have f1:=Rd_at (t:=3) (o:=4) kInt (hf 1 _ rfl)
  obtain ⟨g,e0⟩:=rdGame f0;obtain ⟨v,e1⟩:=rdI f1
  refine ⟨g,v,?_⟩
  have e : us.drop 5 = []:=List.drop_eq_nil_of_le (by omega)
  have:=cutAt e0
  rw [cutAt e1,e] at this
  rw [List.drop_zero] at this
  rw [this]
  rfl
theorem rdSheet (h : Rd Tryz.prog w 34 us) : ∃ (s : Fsh) (x : FSheet),us = sheetC s x ∧ ShAt (mem w) s x ∧ ShSm x:=by
  obtain ⟨hl,hf⟩:=Rd_struct Go.Proofs.Tryz.underlying34 h
  rw [kSheet] at hl
  have f0:=Rd_at (t:=28) (o:=0) kGame (hf 0 _ rfl)
  have f1:=Rd_at (t:=3) (o:=4) kInt (hf 1 _ rfl)
  have f2:=Rd_at (t:=3) (o:=5) kInt (hf 2 _ rfl)
  have f3:=Rd_at (t:=3) (o:=6) kInt (hf 3 _ rfl)
  have f4:=Rd_at (t:=3) (o:=7) kInt (hf 4 _ rfl)
  have f5:=Rd_at (t:=3) (o:=8) kInt (hf 5 _ rfl)
  have f6:=Rd_at (t:=31) (o:=9) kInts (hf 6 _ rfl)
  have f7:=Rd_at (t:=31) (o:=10) kInts (hf 7 _ rfl)
  have f8:=Rd_at (t:=32) (o:=11) kCards (hf 8 _ rfl)
  have f9:=Rd_at (t:=32) (o:=12) kCards (hf 9 _ rfl)
  obtain ⟨g,e0⟩:=rdGame f0;obtain ⟨a1,e1⟩:=rdI f1;obtain ⟨a2,e2⟩:=rdI f2;obtain ⟨a3,e3⟩:=rdI f3;obtain ⟨a4,e4⟩:=rdI f4;obtain ⟨a5,e5⟩:=rdI f5
  obtain ⟨A6,n6,c6,x6,e6,_,h6,b6⟩:=rdInts f6;obtain ⟨A7,n7,c7,x7,e7,_,h7,b7⟩:=rdInts f7;obtain ⟨A8,n8,c8,x8,e8,h8,b8⟩:=rdCards f8;obtain ⟨A9,n9,c9,x9,e9,h9,b9⟩:=rdCards f9
  refine ⟨{ fsh0 with hs:=⟨A6,n6,c6⟩,asn:=⟨A7,n7,c7⟩,hc:=⟨A8,n8,c8⟩,ac:=⟨A9,n9,c9⟩ },⟨g,a1,a2,a3,a4,a5,x6,x7,x8,x9⟩,?_,⟨h6,h7,h8,h9⟩,⟨b6,b7,b8,b9⟩⟩
  have e : us.drop 13 = []:=List.drop_eq_nil_of_le (by omega)
  have:=cutAt e0
  rw [cutAt e1,cutAt e2,cutAt e3,cutAt e4,cutAt e5,cutAt e6,cutAt e7,cutAt e8,cutAt e9,e] at this
  rw [List.drop_zero] at this
  rw [this]
  rfl
theorem rdIvl7 (h : Rd Tryz.prog w 48 us) : ∃ a b,us = [.int .i64 a,.int .i64 b]:=by
  obtain ⟨hl,hf⟩:=Rd_struct Go.Proofs.Tryz.underlying48 h
  rw [kIvl] at hl
  have f0:=Rd_at (t:=3) (o:=0) kInt (hf 0 _ rfl)
  have f1:=Rd_at (t:=3) (o:=1) kInt (hf 1 _ rfl)
  obtain ⟨a,e0⟩:=rdI f0;obtain ⟨b,e1⟩:=rdI f1
  refine ⟨a,b,?_⟩
  have e : us.drop 2 = []:=List.drop_eq_nil_of_le (by omega)
  have:=cutAt e0
  rw [cutAt e1,e] at this
  rw [List.drop_zero] at this
  rw [this]
  rfl
theorem rdRul (h : Rd Tryz.prog w 50 us) : ∃ r,us = rulC r:=by
  obtain ⟨hl,hf⟩:=Rd_struct Go.Proofs.Tryz.underlying50 h
  rw [kRul] at hl
  have f0:=Rd_at (t:=3) (o:=0) kInt (hf 0 _ rfl)
  have f1:=Rd_at (t:=3) (o:=1) kInt (hf 1 _ rfl)
  have f2:=Rd_at (t:=3) (o:=2) kInt (hf 2 _ rfl)
  have f3:=Rd_at (t:=28) (o:=3) kGame (hf 3 _ rfl)
  have f4:=Rd_at (t:=3) (o:=7) kInt (hf 4 _ rfl)
  have f5:=Rd_at (t:=3) (o:=8) kInt (hf 5 _ rfl)
  have f6:=Rd_at (t:=3) (o:=9) kInt (hf 6 _ rfl)
  have f7:=Rd_at (t:=3) (o:=10) kInt (hf 7 _ rfl)
  have f8:=Rd_at (t:=3) (o:=11) kInt (hf 8 _ rfl)
  have f9:=Rd_at (t:=3) (o:=12) kInt (hf 9 _ rfl)
  have f10:=Rd_at (t:=3) (o:=13) kInt (hf 10 _ rfl)
  have f11:=Rd_at (t:=3) (o:=14) kInt (hf 11 _ rfl)
  have f12:=Rd_at (t:=48) (o:=15) kIvl (hf 12 _ rfl)
  obtain ⟨a0,e0⟩:=rdI f0;obtain ⟨a1,e1⟩:=rdI f1;obtain ⟨a2,e2⟩:=rdI f2;obtain ⟨g,e3⟩:=rdGame f3;obtain ⟨a4,e4⟩:=rdI f4;obtain ⟨a5,e5⟩:=rdI f5
  obtain ⟨a6,e6⟩:=rdI f6;obtain ⟨a7,e7⟩:=rdI f7;obtain ⟨a8,e8⟩:=rdI f8;obtain ⟨a9,e9⟩:=rdI f9;obtain ⟨a10,e10⟩:=rdI f10;obtain ⟨a11,e11⟩:=rdI f11;obtain ⟨lo,hi,e12⟩:=rdIvl7 f12
  refine ⟨⟨a0,a1,a2,g,a4,a5,a6,a7,a8,a9,a10,a11,lo,hi⟩,?_⟩
  have e : us.drop 17 = []:=List.drop_eq_nil_of_le (by omega)
  have:=cutAt e0
  rw [cutAt e1,cutAt e2,cutAt e3,cutAt e4,cutAt e5,cutAt e6,cutAt e7,cutAt e8,cutAt e9,cutAt e10,cutAt e11,cutAt e12,e] at this
  rw [List.drop_zero] at this
  rw [this]
  rfl
theorem rdApp (h : Rd Tryz.prog w 52 us) : ∃ a b c,us = [.int .i64 a,.int .i64 b,.bool c]:=by
  obtain ⟨hl,hf⟩:=Rd_struct Go.Proofs.Tryz.underlying52 h
  rw [kApp] at hl
  have f0:=Rd_at (t:=3) (o:=0) kInt (hf 0 _ rfl)
  have f1:=Rd_at (t:=3) (o:=1) kInt (hf 1 _ rfl)
  have f2:=Rd_at (t:=4) (o:=2) kBool (hf 2 _ rfl)
  obtain ⟨a,e0⟩:=rdI f0;obtain ⟨b,e1⟩:=rdI f1;obtain ⟨c,e2⟩:=rdB f2
  refine ⟨a,b,c,?_⟩
  have e : us.drop 3 = []:=List.drop_eq_nil_of_le (by omega)
  have:=cutAt e0
  rw [cutAt e1,cutAt e2,e] at this
  rw [List.drop_zero] at this
  rw [this]
  rfl
theorem rdMov (h : Rd Tryz.prog w 54 us) : ∃ a b,us = [.int .i64 a,.int .i64 b]:=by
  obtain ⟨hl,hf⟩:=Rd_struct Go.Proofs.Tryz.underlying54 h
  rw [kMov] at hl
  have f0:=Rd_at (t:=3) (o:=0) kInt (hf 0 _ rfl)
  have f1:=Rd_at (t:=3) (o:=1) kInt (hf 1 _ rfl)
  obtain ⟨a,e0⟩:=rdI f0;obtain ⟨b,e1⟩:=rdI f1
  refine ⟨a,b,?_⟩
  have e : us.drop 2 = []:=List.drop_eq_nil_of_le (by omega)
  have:=cutAt e0
  rw [cutAt e1,e] at this
  rw [List.drop_zero] at this
  rw [this]
  rfl
theorem rdLot (h : Rd Tryz.prog w 56 us) : ∃ a b A n c xs,us = [.int .i64 a,.int .i64 b,.slice A n c] ∧ n ≤ c ∧ SlOf encI 1 (mem w) A n xs ∧ xs.length ≤ 9223372036854775807:=by
  obtain ⟨hl,hf⟩:=Rd_struct Go.Proofs.Tryz.underlying56 h
  rw [kLot] at hl
  have f0:=Rd_at (t:=3) (o:=0) kInt (hf 0 _ rfl)
  have f1:=Rd_at (t:=3) (o:=1) kInt (hf 1 _ rfl)
  have f2:=Rd_at (t:=31) (o:=2) kInts (hf 2 _ rfl)
  obtain ⟨a,e0⟩:=rdI f0;obtain ⟨b,e1⟩:=rdI f1;obtain ⟨A,n,c,xs,e2,hc,hs,hb⟩:=rdInts f2
  refine ⟨a,b,A,n,c,xs,?_,hc,hs,hb⟩
  have e : us.drop 3 = []:=List.drop_eq_nil_of_le (by omega)
  have:=cutAt e0
  rw [cutAt e1,cutAt e2,e] at this
  rw [List.drop_zero] at this
  rw [this]
  rfl
theorem voidC_map (v : List UInt8) : voidC v = (List.range 32).map (vB v):=rfl
theorem rdVoid (h : Rd Tryz.prog w 58 us) : ∃ v : List UInt8,v.length = 32 ∧ us = voidC v:=by
  obtain ⟨hl,hf⟩:=Rd_array Go.Proofs.Tryz.underlying58 h
  rw [kDig] at hl
  rw [kByte] at hf
  have hb : ∀ i,i < 32 → ∃ b : UInt8,us[i]? = some (.int .u8 b.toNat):=fun i hi => by
    obtain ⟨n,e,hw⟩:=Rd_int Go.Proofs.Tryz.underlying5 (hf i hi)
    rw [Nat.mul_one] at e
    have hr : 0 ≤ n ∧ n < 256:=by
      simp [Lit.wf,IntKind.min,IntKind.max,IntKind.bits,IntKind.signed] at hw
      omega
    refine ⟨UInt8.ofNat n.toNat,?_⟩
    rw [take_one e,UInt8.toNat_ofNat']
    congr 2
    omega
  have hx : ∀ i,∃ b : UInt8,i < 32 → us[i]? = some (.int .u8 b.toNat):=fun i => by
    by_cases hi : i < 32
    · obtain ⟨b,e⟩:=hb i hi;exact ⟨b,fun _ => e⟩
    · exact ⟨0,fun h => absurd h hi⟩
  obtain ⟨f,hf2⟩:=Classical.axiomOfChoice hx
  refine ⟨(List.range 32).map f,by simp,?_⟩
  rw [voidC_map]
  apply List.ext_getElem?
  intro i
  by_cases hi : i < 32
  · rw [hf2 i hi,List.getElem?_map,List.getElem?_range hi]
    simp [vB,List.getD,List.getElem?_map,List.getElem?_range hi]
  · rw [List.getElem?_eq_none (by omega),List.getElem?_eq_none (by simp;omega)]
theorem rdFact (h : Rd Tryz.prog w 60 us) : ∃ p : Fsh × Fct,us = encF82 p ∧ FAt (mem w) p.1 p.2 ∧ FSm p.2:=by
  obtain ⟨hl,hf⟩:=Rd_struct Go.Proofs.Tryz.underlying60 h
  rw [kFact] at hl
  have f0:=Rd_at (t:=3) (o:=0) kInt (hf 0 _ rfl)
  have f1:=Rd_at (t:=3) (o:=1) kInt (hf 1 _ rfl)
  have f2:=Rd_at (t:=3) (o:=2) kInt (hf 2 _ rfl)
  have f3:=Rd_at (t:=44) (o:=3) kEnt (hf 3 _ rfl)
  have f4:=Rd_at (t:=46) (o:=7) kFix (hf 4 _ rfl)
  have f5:=Rd_at (t:=34) (o:=12) kSheet (hf 5 _ rfl)
  have f6:=Rd_at (t:=50) (o:=25) kRul (hf 6 _ rfl)
  have f7:=Rd_at (t:=52) (o:=42) kApp (hf 7 _ rfl)
  have f8:=Rd_at (t:=54) (o:=45) kMov (hf 8 _ rfl)
  have f9:=Rd_at (t:=56) (o:=47) kLot (hf 9 _ rfl)
  have f10:=Rd_at (t:=58) (o:=50) kDig (hf 10 _ rfl)
  obtain ⟨a0,e0⟩:=rdI f0;obtain ⟨a1,e1⟩:=rdI f1;obtain ⟨a2,e2⟩:=rdI f2
  obtain ⟨eS,eC,Ae,ne,ce,xe,er,e3,he,be,br⟩:=rdEnt f3
  obtain ⟨fg,ve,e4⟩:=rdFix f4
  obtain ⟨s,x,e5,hs,bs⟩:=rdSheet f5
  obtain ⟨r,e6⟩:=rdRul f6
  obtain ⟨aC,aI,aS,e7⟩:=rdApp f7
  obtain ⟨mP,mT,e8⟩:=rdMov f8
  obtain ⟨lS,lC,Al,nl,cl,xl,e9,hcl,hl9,bl⟩:=rdLot f9
  obtain ⟨v,hv,e10⟩:=rdVoid f10
  refine ⟨({ s with cl:=⟨Ae,ne,ce⟩,lo:=⟨Al,nl,cl⟩ },⟨a0,a1,a2,eS,eC,xe,er,fg,ve,x,r,aC,aI,aS,mP,mT,lS,lC,xl,v⟩),?_,⟨⟨hs.hs,hs.asn,hs.hc,hs.ac⟩,he,hl9,hv,hcl⟩,⟨bs,be,bl,br⟩⟩
  have e : us.drop 82 = []:=List.drop_eq_nil_of_le (by omega)
  have:=cutAt e0
  rw [cutAt e1,cutAt e2,cutAt e3,cutAt e4,cutAt e5,cutAt e6,cutAt e7,cutAt e8,cutAt e9,cutAt e10,e] at this
  rw [List.drop_zero] at this
  rw [this]
  rfl
end
section
variable {H : Type} {enc : TypeId × Value → H} {W : World} {base : Nat} {v : Value} {d : DataW H} {p : List MemPlace}
theorem argI (hv : Value.okWide Tryz.prog W .any base 3 v) : ∃ n,v = .int .i64 n:=okWide_int Go.Proofs.Tryz.underlying3 hv
theorem argL2 (hv : Value.okWide Tryz.prog W .any base 22 v) (h : DataW.Trod enc Tryz.prog W 0 (fun _ => true) true 22 v d p) : ∃ A n c l,v = .slice A n c ∧ LedIn (mem W) A n c l:=by
  obtain ⟨A,n,c,rfl⟩:=okWide_slice Go.Proofs.Tryz.underlying22 hv
  obtain ⟨A',n',c',xs,e,h1,h2,h3,h4⟩:=Rd_sliceP (enc:=encF82) (S:=fun p => FAt (mem W) p.1 p.2 ∧ FSm p.2) Go.Proofs.Tryz.underlying22 kFact (fun _ hu => rdFact hu) (Rd_of h)
  simp [Value.cells] at e
  obtain ⟨rfl,rfl,rfl⟩:=e
  unfold maxLen at h2
  exact ⟨_,_,_,xs,rfl,h3,h4,h1,by omega⟩
end
theorem own : ownKnob Tryz.prog.godebug = none:=by kernel_rfl
theorem laidOut : laidOutB Tryz.prog = true:=by kernel_rfl
theorem laid_ints {P : Program} {w : World} {H : Type} {enc : TypeId × Value → H} {sp : Nat → Bool} {held : Bool} {n : Nat} {t e : TypeId} {k : IntKind} {cs : List Value} {fuel : Nat} {ls : List Int} {p : List MemPlace} (ht : P.underlying t = some (.array n e)) (he : P.underlying e = some (.int k)) (hz : P.cellsOf e = 1) (hc : P.cellsOf t = n)
    (hd : DataW.trod enc P w 0 sp held fuel t cs = some (.agg (ls.map fun z => .lit (.int k z)),p)) : cs = ls.map fun z => .int k z:=by
  obtain ⟨xs,m,_,hx,hl,hn,hel⟩:=DataW.trod_array ht hd
  simp only [Prod.mk.injEq,DataW.agg.injEq] at hx
  obtain ⟨hx,_⟩:=hx
  have hll : ls.length = n:=by
    have:=congrArg List.length hx
    simp at this;omega
  apply List.ext_getElem?
  intro i
  by_cases hi : i < n
  · have h0:=hel i hi
    rw [hz] at h0
    have hxi : i < xs.length:=by omega
    rw [List.getElem?_eq_getElem hxi] at h0
    obtain ⟨k',e1,e2,_⟩:=DataW.trod_int he h0
    rw [Nat.mul_one] at e1
    rw [take_one e1]
    have h1:=congrArg (fun q => q[i]?) hx
    simp only [List.getElem?_map,List.getElem?_eq_getElem hxi,List.getElem?_eq_getElem (show i < ls.length by omega),Option.map_some,Option.some.injEq] at h1
    rw [e2] at h1
    simp only [DataW.lit.injEq,Lit.int.injEq,true_and] at h1
    rw [List.getElem?_map,List.getElem?_eq_getElem (show i < ls.length by omega),Option.map_some,h1]
  · rw [List.getElem?_eq_none (by omega),List.getElem?_eq_none (by rw [List.length_map];omega)]
abbrev laidL : List (String × DataW Unit):=[("math/bits.deBruijn32tab",Go.Proofs.YtphlhpbmkejbaabGreatDoor.Rows.laid_math_bits_deBruijn32tab),("math/bits.deBruijn64tab",Go.Proofs.YtphlhpbmkejbaabGreatDoor.Rows.laid_math_bits_deBruijn64tab),("internal/strconv.uint64pow10",Go.Proofs.YtphlhpbmkejbaabGreatDoor.Rows.laid_internal_strconv_uint64pow10)]
theorem door_met (os : Os) (args : Array Value) : laidMetH Tryz.prog laidL ((World.doorLaid Tryz.prog 400 os).forCall (fun _ _ => 0) ⟨#[],args,[]⟩).memory :=
  laidMetH_of_parts3 (fuel:=8) (laidMet_of_run' 8 (by kernel_rfl) (by kernel_rfl)) (by kernel_rfl) (by kernel_rfl)
theorem gPow : Tryz.prog.globalNamed "internal/strconv.uint64pow10" = some 1:=by kernel_rfl
theorem tPow : (Tryz.prog.globals[(1 : Nat)]?).map (·.type) = some 274:=by kernel_rfl
theorem powL : (Go.Proofs.YtphlhpbmkejbaabGreatDoor.Rows.laid_internal_strconv_uint64pow10 : DataW Unit) = .agg (Lib.pow10Tab.map fun z => .lit (.int .u64 z)):=rfl
theorem powG_of {W : World} (h : laidMetH Tryz.prog laidL W) : PowG (mem W):=by
  rw [MakeChecks.laidMetH_plain _ _ _ (by kernel_rfl)] at h
  obtain ⟨ps,⟨_,_,_,_,_,_,_,_,_,_,⟨_,_,_,_,_,_,_,_,_,_,⟨g,t,cs,fu,p,q,hg,ht,hv,hd,_,_⟩,_⟩,_⟩,_,_⟩:=h
  obtain rfl:=Option.some.inj (gPow.symm.trans hg)
  obtain rfl:=Option.some.inj (tPow.symm.trans ht)
  rw [powL] at hd
  have hc:=laid_ints Go.Proofs.Tryz.underlying274 Go.Proofs.Tryz.underlying167 (by kernel_rfl) (by kernel_rfl) hd
  unfold World.var? at hv
  rw [gPow,Option.bind_some] at hv
  split at hv
  · rename_i cs' t' fz hh
    injection hv with hv
    refine ⟨_,t',fz,gPow,?_⟩
    show W.heap[_]? = _
    rw [hh,hv,← hc]
  · cases hv
end Go.Hw

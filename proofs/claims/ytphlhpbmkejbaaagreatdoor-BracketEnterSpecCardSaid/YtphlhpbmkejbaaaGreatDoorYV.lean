import Derived.Test.YtphlhpbmkejbaaaGreatDoorYY
import Derived.Test.YtphlhpbmkejbaaaGreatDoorBA
import Derived.Test.YtphlhpbmkejbaaaGreatDoorRows
import Derived.Test.YtphlhpbmkejbaaaGreatDoorTie
import Derived.Test.YtphlhpbmkejbaaaGreatDoorCards
import Derived.ProofKit
import Derived.LaidMore
import Derived.OpenShut
import Derived.Stop.Joined
import Derived.SevenTiedAt
set_option linter.unusedSimpArgs false
set_option linter.unusedVariables false
namespace Go.Hw
open Go Go.ChangeShapes Go.WideShapes Go.RowKit
def Rdw (P : Program) (w : World) (t : TypeId) (cs : List Value) : Prop :=
  ∃ (H : Type) (enc : TypeId × Value → H) (fuel : Nat) (x : DataW H × List MemPlace),DataW.trod enc P w 0 (fun _ => true) true fuel t cs = some x ∧ ∀ n ∈ x.1.weights P t,n ≤ reachBytes
theorem Rdw.rd {P : Program} {w : World} {t : TypeId} {cs : List Value} (h : Rdw P w t cs) : Rd P w t cs:=let ⟨H,enc,f,x,h,_⟩:=h;⟨H,enc,f,x,h⟩
theorem weights_each {H : Type} (P : Program) : ∀ (ts : List TypeId) (ds : List (DataW H)) (i : Nat) (t : TypeId) (d : DataW H),ts[i]? = some t → ds[i]? = some d → ∀ n ∈ d.weights P t,n ∈ DataW.weightsEach P ts ds
  | [],_,i,t,d,h,_,_,_ => by simp at h
  | _ :: _,[],i,t,d,_,h,_,_ => by simp at h
  | u :: ts,e :: ds,0,t,d,h,k,n,hn => by
    simp at h k
    subst h;subst k
    rw [DataW.weightsEach]
    exact List.mem_append_left _ hn
  | u :: ts,e :: ds,i + 1,t,d,h,k,n,hn => by
    rw [DataW.weightsEach]
    exact List.mem_append_right _ (weights_each P ts ds i t d (by simpa using h) (by simpa using k) n hn)
theorem weights_all {H : Type} (P : Program) (e : TypeId) : ∀ (ds : List (DataW H)) (d : DataW H),d ∈ ds → ∀ n ∈ d.weights P e,n ∈ DataW.weightsAll P e ds
  | [],_,h,_,_ => by cases h
  | x :: r,d,h,n,hn => by
    rw [DataW.weightsAll]
    rcases List.mem_cons.1 h with e1|e1
    · subst e1;exact List.mem_append_left _ hn
    · exact List.mem_append_right _ (weights_all P e r d e1 n hn)
section
variable {P : Program} {w : World} {t : TypeId} {cs : List Value}
theorem Rdw_struct {fs : Array Field} (ht : P.underlying t = some (.struct fs)) (h : Rdw P w t cs) :
    cs.length = P.cellsOf t ∧ ∀ (i : Nat) (f : Field),fs[i]? = some f → Rdw P w f.type ((cs.drop f.offset).take (P.cellsOf f.type)):=by
  obtain ⟨H,enc,fu,x,h,hw⟩:=h
  obtain ⟨xs,n,_,rfl,hl,hx,hf⟩:=DataW.trod_struct ht h
  refine ⟨hl,fun i f hi => ?_⟩
  have hlt : i < xs.length:=by
    have:=(Array.getElem?_eq_some_iff.1 hi).1
    omega
  refine ⟨H,enc,n,xs[i],by rw [hf i f hi,List.getElem?_eq_getElem hlt],fun m hm => hw m ?_⟩
  rw [DataW.weights,ht]
  exact weights_each P _ _ i f.type xs[i].1 (by simp [hi]) (by simp [List.getElem?_eq_getElem hlt]) m hm
theorem Rdw_sliceC {e : TypeId} (ht : P.underlying t = some (.slice e)) (h : Rdw P w t cs) :
    cs = [.slice none 0 0] ∨ ∃ (a : Addr) (n c : Nat),cs = [.slice (some a) n c] ∧ n ≤ c ∧ c * P.bytesOf e ≤ reachBytes ∧
      ∀ i,i < n → ∃ us,CellsAt (mem w) (a.add (i * P.cellsOf e)) us ∧ Rdw P w e us:=by
  obtain ⟨H,enc,fu,x,h,hw⟩:=h
  rcases Go.Deep.open_slice ht h with ⟨h1,_⟩|⟨a,len,cap,m,n,D,Pl,h1,_,h2,h3,h4,rfl,h5⟩
  · exact .inl h1
  · have hm : m = cap:=by rw [h4];simp
    subst hm
    rw [DataW.weights,ht] at hw
    refine .inr ⟨a,len,m,h1,h2,?_,fun i hi => ?_⟩
    · have:=hw _ (.head _)
      simp only [List.length_map,List.length_range] at this
      rwa [Nat.add_sub_cancel' h2] at this
    · obtain ⟨us,h6,h7⟩:=h5 i (by omega)
      refine ⟨us,CellsAt_of_cells? h6,H,enc,n,_,h7,fun q hq => hw q (List.mem_cons_of_mem _ (List.mem_append_left _ (weights_all P e _ (D i) ?_ q hq)))⟩
      exact List.mem_map.2 ⟨i,by simpa using hi,rfl⟩
theorem Rdw_slice {α : Type} {enc : α → List Value} {sz : Nat} {e : TypeId} (Q : α → Prop) (ht : P.underlying t = some (.slice e)) (hz : P.cellsOf e = sz) (he : ∀ us,Rdw P w e us → ∃ x,us = enc x ∧ Q x) (h : Rdw P w t cs) :
    ∃ A n c xs,cs = [.slice A n c] ∧ n ≤ c ∧ c * P.bytesOf e ≤ reachBytes ∧ SlOf enc sz (mem w) A n xs ∧ ∀ x ∈ xs,Q x:=by
  rcases Rdw_sliceC ht h with h1|⟨a,n,c,h1,h2,h3,h4⟩
  · exact ⟨none,0,0,[],h1,Nat.le_refl _,by rw [Nat.zero_mul];exact Nat.zero_le _,SlOf.nil,fun x hx => absurd hx (by simp)⟩
  · rcases Nat.eq_zero_or_pos n with h0|h0
    · subst h0
      exact ⟨some a,0,c,[],h1,h2,h3,SlOf.nil,fun x hx => absurd hx (by simp)⟩
    · obtain ⟨us0,_,h6⟩:=h4 0 h0
      obtain ⟨x0,_⟩:=he us0 h6
      have hx : ∀ i,∃ x,i < n → (CellsAt (mem w) (a.add (i * sz)) (enc x) ∧ Q x):=fun i => by
        by_cases hi : i < n
        · obtain ⟨us,h5,h6⟩:=h4 i hi
          obtain ⟨x,rfl,hq⟩:=he us h6
          exact ⟨x,fun _ => ⟨hz ▸ h5,hq⟩⟩
        · exact ⟨x0,fun h => absurd h hi⟩
      obtain ⟨f,hf⟩:=Classical.axiomOfChoice hx
      refine ⟨some a,n,c,(List.range n).map f,h1,h2,h3,⟨by simp,fun _ => ⟨a,rfl,fun j x hj => ?_⟩⟩,fun x hx => ?_⟩
      · obtain ⟨hl,rfl⟩:=List.getElem?_eq_some_iff.1 hj
        simp at hl
        simpa using (hf j hl).1
      · obtain ⟨i,hi,rfl⟩:=List.mem_map.1 hx
        exact (hf i (by simpa using hi)).2
end
theorem Rdw_of {P : Program} {w : World} {t : TypeId} {H : Type} {enc : TypeId × Value → H} {v : Value} {d : DataW H} {ps : List MemPlace} (h : DataW.Trod enc P w 0 (fun _ => true) true t v d ps) (hw : ∀ n ∈ d.weights P t,n ≤ reachBytes) : Rdw P w t v.cells.toList :=
  let ⟨n,h⟩:=h
  ⟨H,enc,n,_,h,hw⟩
theorem weights_arg {H : Type} {P : Program} {ts : List TypeId} {ds : List (DataW H)} (h : (DataW.weightsEach P ts ds).all (· ≤ reachBytes) = true) (i : Nat) {t : TypeId} {d : DataW H} (ht : ts[i]? = some t) (hd : ds[i]? = some d) : ∀ n ∈ d.weights P t,n ≤ reachBytes:=fun n hn => by
  have:=List.all_eq_true.1 h n (weights_each P ts ds i t d ht hd n hn)
  simpa using this
end Go.Hw
set_option linter.unusedVariables false
set_option maxRecDepth 100000
namespace Go.Hw
open Go Go.ChangeShapes Go.WideShapes Go.RowKit
open Go.Proofs (Tryz.prog)
open Go.Proofs.YtphlhpbmkejbaaaGreatDoor (Rows.none)
theorem cutAt {us p : List Value} {o k : Nat} (h : (us.drop o).take k = p) : us.drop o = p ++ us.drop (o + k):=by
  rw [← h,← List.drop_drop,List.take_append_drop]
theorem Rd_at {P : Program} {w : World} {us : List Value} {t : TypeId} {o k : Nat} (hk : P.cellsOf t = k) (h : Rd P w t ((us.drop o).take (P.cellsOf t))) : Rd P w t ((us.drop o).take k):=hk ▸ h
theorem kInt : Tryz.prog.cellsOf 3 = 1:=by kernel_rfl
theorem kBool : Tryz.prog.cellsOf 4 = 1:=by kernel_rfl
theorem kGame : Tryz.prog.cellsOf 38 = 4:=by kernel_rfl
section
variable {w : World} {us : List Value}
theorem rdI (h : Rd Tryz.prog w 3 us) : ∃ n,us = [.int .i64 n]:=by
  obtain ⟨n,e,_⟩:=Rd_int Go.Proofs.Tryz.underlying3 h
  exact ⟨n,e⟩
theorem rdB (h : Rd Tryz.prog w 4 us) : ∃ b,us = [.bool b]:=Rd_bool Go.Proofs.Tryz.underlying4 h
theorem fin4 {a b c d : List Value} (hl : us.length = 4) (h0 : (us.drop 0).take 1 = a) (h1 : (us.drop 1).take 1 = b) (h2 : (us.drop 2).take 1 = c) (h3 : (us.drop 3).take 1 = d) : us = a ++ (b ++ (c ++ (d ++ []))):=by
  have e : us.drop 4 = []:=List.drop_eq_nil_of_le (by omega)
  have:=cutAt h0
  rw [cutAt h1,cutAt h2,cutAt h3,e] at this
  simpa using this
theorem rdGame (h : Rd Tryz.prog w 38 us) : ∃ g,us = gameC g:=by
  obtain ⟨hl,hf⟩:=Rd_struct Go.Proofs.Tryz.underlying38 h
  rw [kGame] at hl
  have f0:=Rd_at (t:=3) (o:=0) kInt (hf 0 _ rfl)
  have f1:=Rd_at (t:=3) (o:=1) kInt (hf 1 _ rfl)
  have f2:=Rd_at (t:=3) (o:=2) kInt (hf 2 _ rfl)
  have f3:=Rd_at (t:=3) (o:=3) kInt (hf 3 _ rfl)
  obtain ⟨a,e0⟩:=rdI f0;obtain ⟨b,e1⟩:=rdI f1;obtain ⟨c,e2⟩:=rdI f2;obtain ⟨d,e3⟩:=rdI f3
  exact ⟨⟨a,b,c,d⟩,fin4 hl e0 e1 e2 e3⟩
theorem rdInts (h : Rd Tryz.prog w 33 us) : ∃ A n c xs,us = [.slice A n c] ∧ n ≤ c ∧ SlOf encI 1 (mem w) A n xs ∧ xs.length ≤ 9223372036854775807:=by
  obtain ⟨A,n,c,xs,e,h1,h3,h2⟩:=Rd_slice (enc:=encI) Go.Proofs.Tryz.underlying33 kInt (fun _ hu => rdI hu) h
  unfold maxLen at h3
  have:=h2.len
  exact ⟨A,n,c,xs,e,h1,h2,by omega⟩
end
section
variable {H : Type} {enc : TypeId × Value → H} {W : World} {base : Nat} {v : Value} {d : DataW H} {p : List MemPlace}
theorem argInts (hv : Value.okWide Tryz.prog W .any base 33 v) (h : DataW.Trod enc Tryz.prog W 0 (fun _ => true) true 33 v d p) : ∃ A n c l,v = .slice A n c ∧ n ≤ c ∧ n ≤ 9223372036854775807 ∧ SlOf encI 1 (mem W) A n l:=by
  obtain ⟨A,n,c,rfl⟩:=okWide_slice Go.Proofs.Tryz.underlying33 hv
  obtain ⟨A',n',c',xs,e,h1,h3,h2⟩:=rdInts (Rd_of h)
  simp [Value.cells] at e
  obtain ⟨rfl,rfl,rfl⟩:=e
  exact ⟨_,_,_,xs,rfl,h1,by have:=h3.len;omega,h3⟩
end
theorem own : ownKnob Tryz.prog.godebug = none:=by kernel_rfl
theorem laidOut : laidOutB Tryz.prog = true:=by kernel_rfl
abbrev laidL : List (String × DataW Unit):=[("math/bits.deBruijn32tab",Go.Proofs.YtphlhpbmkejbaaaGreatDoor.Rows.laid_math_bits_deBruijn32tab),("math/bits.deBruijn64tab",Go.Proofs.YtphlhpbmkejbaaaGreatDoor.Rows.laid_math_bits_deBruijn64tab),("internal/strconv.uint64pow10",Go.Proofs.YtphlhpbmkejbaaaGreatDoor.Rows.laid_internal_strconv_uint64pow10)]
theorem door_met (os : Os) (args : Array Value) : laidMetH Tryz.prog laidL ((World.doorLaid Tryz.prog 400 os).forCall (fun _ _ => 0) ⟨#[],args,[]⟩).memory :=
  laidMetH_of_parts3 (fuel:=8) (laidMet_of_run' 8 (by kernel_rfl) (by kernel_rfl)) (by kernel_rfl) (by kernel_rfl)
end Go.Hw
set_option linter.unusedVariables false
set_option maxRecDepth 100000
namespace Go.Hw
open Go Go.ChangeShapes Go.WideShapes Go.RowKit
open Go.Proofs (Tryz.prog)
open Go.Proofs.YtphlhpbmkejbaaaGreatDoor (Rows.none)
theorem kRes : Tryz.prog.cellsOf 40 = 13:=by kernel_rfl
theorem kTie : Tryz.prog.cellsOf 26 = 2:=by kernel_rfl
theorem kDuel : Tryz.prog.cellsOf 24 = 3:=by kernel_rfl
theorem kRess : Tryz.prog.cellsOf 22 = 1:=by kernel_rfl
theorem kDuels : Tryz.prog.cellsOf 53 = 1:=by kernel_rfl
theorem kRounds : Tryz.prog.cellsOf 34 = 1:=by kernel_rfl
theorem kBr : Tryz.prog.cellsOf 36 = 3:=by kernel_rfl
section
variable {w : World} {us : List Value}
theorem rdRes (h : Rd Tryz.prog w 40 us) : ∃ r,us = resC r:=by
  obtain ⟨hl,hf⟩:=Rd_struct Go.Proofs.Tryz.underlying40 h
  rw [kRes] at hl
  have f0:=Rd_at (t:=38) (o:=0) kGame (hf 0 _ rfl)
  have f1:=Rd_at (t:=3) (o:=4) kInt (hf 1 _ rfl)
  have f2:=Rd_at (t:=3) (o:=5) kInt (hf 2 _ rfl)
  have f3:=Rd_at (t:=3) (o:=6) kInt (hf 3 _ rfl)
  have f4:=Rd_at (t:=3) (o:=7) kInt (hf 4 _ rfl)
  have f5:=Rd_at (t:=3) (o:=8) kInt (hf 5 _ rfl)
  have f6:=Rd_at (t:=3) (o:=9) kInt (hf 6 _ rfl)
  have f7:=Rd_at (t:=3) (o:=10) kInt (hf 7 _ rfl)
  have f8:=Rd_at (t:=4) (o:=11) kBool (hf 8 _ rfl)
  have f9:=Rd_at (t:=4) (o:=12) kBool (hf 9 _ rfl)
  obtain ⟨g,e0⟩:=rdGame f0;obtain ⟨a1,e1⟩:=rdI f1;obtain ⟨a2,e2⟩:=rdI f2;obtain ⟨a3,e3⟩:=rdI f3;obtain ⟨a4,e4⟩:=rdI f4;obtain ⟨a5,e5⟩:=rdI f5;obtain ⟨a6,e6⟩:=rdI f6;obtain ⟨a7,e7⟩:=rdI f7;obtain ⟨b8,e8⟩:=rdB f8;obtain ⟨b9,e9⟩:=rdB f9
  refine ⟨⟨g,a1,a2,a3,a4,a5,a6,a7,b8,b9⟩,?_⟩
  have e : us.drop 13 = []:=List.drop_eq_nil_of_le (by omega)
  have:=cutAt e0
  rw [cutAt e1,cutAt e2,cutAt e3,cutAt e4,cutAt e5,cutAt e6,cutAt e7,cutAt e8,cutAt e9,e] at this
  rw [List.drop_zero] at this
  rw [this]
  rfl
theorem rdTie (h : Rd Tryz.prog w 26 us) : ∃ t,us = tieC t:=by
  obtain ⟨hl,hf⟩:=Rd_struct Go.Proofs.Tryz.underlying26 h
  rw [kTie] at hl
  have f0:=Rd_at (t:=3) (o:=0) kInt (hf 0 _ rfl)
  have f1:=Rd_at (t:=4) (o:=1) kBool (hf 1 _ rfl)
  obtain ⟨a0,e0⟩:=rdI f0;obtain ⟨b1,e1⟩:=rdB f1
  refine ⟨⟨a0,b1⟩,?_⟩
  have e : us.drop 2 = []:=List.drop_eq_nil_of_le (by omega)
  have:=cutAt e0
  rw [cutAt e1,e] at this
  rw [List.drop_zero] at this
  rw [this]
  rfl
theorem Rdw_at {P : Program} {w : World} {us : List Value} {t : TypeId} {o k : Nat} (hk : P.cellsOf t = k) (h : Rdw P w t ((us.drop o).take (P.cellsOf t))) : Rdw P w t ((us.drop o).take k):=hk ▸ h
def DuW (w : World) (p : DuS) : Prop:=DuAt (mem w) p ∧ p.1.n ≤ 4611686018427387904
theorem rdDuel (h : Rdw Tryz.prog w 24 us) : ∃ p : DuS,us = encDu p ∧ DuW w p:=by
  obtain ⟨hl,hf⟩:=Rdw_struct Go.Proofs.Tryz.underlying24 h
  rw [kDuel] at hl
  have f0:=Rd_at (t:=3) (o:=0) kInt (hf 0 _ rfl).rd
  have f1:=Rd_at (t:=3) (o:=1) kInt (hf 1 _ rfl).rd
  obtain ⟨a0,e0⟩:=rdI f0;obtain ⟨a1,e1⟩:=rdI f1
  obtain ⟨A,n,c,xs,e2,h1,h2,h3,_⟩:=Rdw_slice (enc:=resC) (fun _ => True) Go.Proofs.Tryz.underlying22 kRes (fun us hu => (rdRes hu.rd).imp fun r e => ⟨e,trivial⟩) (Rdw_at (t:=22) (o:=2) kRess (hf 2 _ rfl))
  have hb : Tryz.prog.bytesOf 40 = 96:=by kernel_rfl
  rw [hb] at h2
  unfold reachBytes at h2
  refine ⟨(⟨A,n,c⟩,⟨a0,a1,xs⟩),?_,⟨h3,h1⟩,by show n ≤ _;omega⟩
  have e : us.drop 3 = []:=List.drop_eq_nil_of_le (by omega)
  have:=cutAt e0
  rw [cutAt e1,cutAt e2,e] at this
  rw [List.drop_zero] at this
  rw [this]
  rfl
def RdW (w : World) (r : RdS) : Prop:=RdAt (mem w) r ∧ (∀ p ∈ r.2,p.1.n ≤ 4611686018427387904) ∧ r.1.n ≤ 4398046511104
theorem rdRound (h : Rdw Tryz.prog w 53 us) : ∃ r : RdS,us = encRd r ∧ RdW w r:=by
  obtain ⟨A,n,c,xs,e,h1,h2,h3,h4⟩:=Rdw_slice (enc:=encDu) (DuW w) Go.Proofs.Tryz.underlying53 kDuel (fun us hu => rdDuel hu) h
  have hb : Tryz.prog.bytesOf 24 = 40:=by kernel_rfl
  rw [hb] at h2
  unfold reachBytes at h2
  exact ⟨(⟨A,n,c⟩,xs),e,⟨⟨h3,fun p hp => (h4 p hp).1⟩,h1⟩,fun p hp => (h4 p hp).2,by show n ≤ _;omega⟩
end
section
variable {H : Type} {enc : TypeId × Value → H} {W : World} {base : Nat} {v : Value} {d : DataW H} {p : List MemPlace}
theorem argRes (hv : Value.okWide Tryz.prog W .any base 40 v) (h : DataW.Trod enc Tryz.prog W 0 (fun _ => true) true 40 v d p) : ∃ r,v = resV r:=by
  obtain ⟨cs,rfl,_⟩:=okWide_struct Go.Proofs.Tryz.underlying40 hv
  obtain ⟨r,e⟩:=rdRes (Rd_of h)
  refine ⟨r,?_⟩
  simp [Value.cells] at e
  have : cs = cs.toList.toArray:=by simp
  rw [this,e]
theorem argTie (hv : Value.okWide Tryz.prog W .any base 26 v) (h : DataW.Trod enc Tryz.prog W 0 (fun _ => true) true 26 v d p) : ∃ t,v = tieV t:=by
  obtain ⟨cs,rfl,_⟩:=okWide_struct Go.Proofs.Tryz.underlying26 hv
  obtain ⟨r,e⟩:=rdTie (Rd_of h)
  refine ⟨r,?_⟩
  simp [Value.cells] at e
  have : cs = cs.toList.toArray:=by simp
  rw [this,e]
theorem argBr (hv : Value.okWide Tryz.prog W .any base 36 v) (h : DataW.Trod enc Tryz.prog W 0 (fun _ => true) true 36 v d p) (hw : ∀ n ∈ d.weights Tryz.prog 36,n ≤ reachBytes) :
    ∃ s t l,v = brV s t ∧ BrAt (mem W) s l ⟨t,rounds l⟩ ∧ (∀ r ∈ l,RdW W r) ∧ s.n ≤ 8796093022208:=by
  obtain ⟨cs,rfl,_⟩:=okWide_struct Go.Proofs.Tryz.underlying36 hv
  obtain ⟨hl,hf⟩:=Rdw_struct Go.Proofs.Tryz.underlying36 (Rdw_of h hw)
  rw [kBr] at hl
  have f0:=Rd_at (t:=26) (o:=0) kTie (hf 0 _ rfl).rd
  obtain ⟨t,e0⟩:=rdTie f0
  obtain ⟨A,n,c,xs,e2,h1,h2,h3,h4⟩:=Rdw_slice (enc:=encRd) (RdW W) Go.Proofs.Tryz.underlying34 kDuels (fun us hu => rdRound hu) (Rdw_at (t:=34) (o:=2) kRounds (hf 1 _ rfl))
  have hb : Tryz.prog.bytesOf 53 = 24:=by kernel_rfl
  rw [hb] at h2
  unfold reachBytes at h2
  refine ⟨⟨A,n,c⟩,t,xs,?_,⟨⟨h3,fun r hr => (h4 r hr).1⟩,rfl,h1⟩,h4,by show n ≤ _;omega⟩
  have e : ((Value.agg cs).cells.toList).drop 3 = []:=List.drop_eq_nil_of_le (by omega)
  have:=cutAt e0
  rw [cutAt e2,e] at this
  rw [List.drop_zero] at this
  simp [Value.cells] at this
  have e4 : cs = cs.toList.toArray:=by simp
  rw [e4,this];rfl
end
end Go.Hw

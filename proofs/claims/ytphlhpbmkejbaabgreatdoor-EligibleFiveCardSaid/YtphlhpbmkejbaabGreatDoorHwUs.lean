import Derived.Test.YtphlhpbmkejbaabGreatDoorHB
import Derived.Shelf.SlSortCmp.NoneTotal
set_option linter.unusedSimpArgs false
set_option linter.unusedVariables false
namespace Go.Hw
open Go Go.Sort Go.Proofs
theorem Hp.grown {W w' : World} {h0 h : Ro} {Es : List Asn} (H : Hp W [] h0 Es h w') : ∃ q os',w' = grow (W.drewN q) os':=by
  refine ⟨w'.drawn - W.drawn,w'.heap.extract W.heap.size w'.heap.size,?_⟩
  have h1:=H.os;have h2:=H.tape;have h3:=H.output;have h4:=H.size;have h5:=H.dr
  have h6 : ∀ i,i < W.heap.size → w'.heap[i]? = W.heap[i]?:=fun i hi => H.old i hi (by simp)
  clear H
  obtain ⟨hp',tp',dr',os',out'⟩:=w'
  obtain ⟨hp,tp,dr,os,out⟩:=W
  simp only at h1 h2 h3 h4 h5 h6
  subst h1;subst h2;subst h3
  simp only [grow,World.drewN,World.mk.injEq,and_true,true_and]
  refine ⟨?_,by omega⟩
  apply Array.ext_getElem?
  intro i
  by_cases hi : i < hp.size
  · rw [Array.getElem?_append_left hi];exact h6 i hi
  · rw [Array.getElem?_append_right (by omega),Array.getElem?_extract]
    by_cases hj : i < hp'.size
    · rw [if_pos (by omega)];congr 1;omega
    · rw [if_neg (by omega),Array.getElem?_eq_none (by omega)]
theorem flatK_eq {α : Type} [Inhabited α] {enc : α → List Value} {k : Nat} (hk : ∀ x,(enc x).length = k) (xs : List α) : flatK enc k xs.toArray = (xs.flatMap enc).toArray:=by
  have hl:=flatMap_len hk xs
  refine ext_get! (by rw [size_flatK];simp [hl]) fun t ht => ?_
  rw [size_flatK] at ht
  rw [get_flatK enc k _ t ht]
  have hts : t < xs.length * k:=by simpa using ht
  have h1 : t < (xs.flatMap enc).length:=by rw [hl];exact hts
  obtain ⟨x,hx1,hx2⟩:=flatMap_get hk xs t _ (List.getElem?_eq_getElem h1)
  rw [getElem!_pos (xs.flatMap enc).toArray t (by simpa using h1)]
  simp only [List.getElem_toArray]
  have e1 : xs.toArray[t / k]! = x:=by
    rw [getElem!_def];simp [hx1]
  rw [e1,getElem!_def,hx2]
def sortBy {α : Type} (cf : α → α → Int) (xs : List α) : List α:=xs.mergeSort fun x y => !(ltOf cf) y x
theorem sortBy_len {α : Type} (cf : α → α → Int) (xs : List α) : (sortBy cf xs).length = xs.length:=List.length_mergeSort xs
theorem sortBy_perm {α : Type} (cf : α → α → Int) (xs : List α) : (sortBy cf xs).Perm xs:=List.mergeSort_perm xs _
theorem sortFnK {α : Type} [Inhabited α] {P : Program} {f gf : FuncId} {cb : Array Value} (enc : α → List Value) (k : Nat) (hk : ∀ x,(enc x).length = k) (hk0 : 0 < k) (cf : α → α → Int)
    (hC : ∀ (blk off cap : Nat) (d : Array α) (w : World),CmpLays P gf cb enc k cf blk off d.size w → HoldsK enc k w blk off d → blk < w.heap.size → d.size < 4611686018427387904 →
      Calls P f #[.slice (some ⟨blk,off,none⟩) d.size cap,.func (.func gf) #[] cb] w fun e w' => e = .returned (.tuple #[]) ∧ ∃ n os,w' = sortWorldK enc k w blk off n (d.toList.mergeSort fun x y => !(ltOf cf) y x).toArray os)
    (hN : ∀ (p : Option Addr) (cap : Nat) (w : World),Calls P f #[.slice p 0 cap,.func (.func gf) #[] cb] w fun e w' => e = .returned (.tuple #[]) ∧ w' = w)
    (hcmp : ∀ x y,Res P gf (#[.agg (enc x).toArray,.agg (enc y).toArray] ++ cb) (fun _ => none) fun u _ => u = .int .i64 (cf x y))
    (e : TypeId) (v : Value) (xs : List α) (n : Nat) (h : Ro) (hn : n ≤ 1000000000) (hx : xs.length = n) :
    Fn P f #[v,.func (.func gf) #[] cb] [OwnS e k v n (xs.flatMap enc)] h fun u Es _ => u = .tuple #[] ∧ Es = [OwnS e k v n ((sortBy cf xs).flatMap enc)]:=by
  subst hx
  intro w X0 hl ⟨Ds,ho,hnd,hb⟩
  have H0 : Hp w X0 h [OwnS e k v xs.length (xs.flatMap enc)] h w:=⟨rfl,rfl,rfl,Nat.le_refl _,Nat.le_refl _,fun _ _ _ => rfl,hl,Le.refl _,fun i o e => .inl e,Ds,ho,hnd,fun b h1 => ⟨(hb b h1).1,.inr (hb b h1).2.1,(hb b h1).2.2⟩⟩
  obtain ⟨D,hA⟩:=H0.get (List.Mem.head _)
  obtain ⟨hlen,hr⟩:=hA
  rcases hr with ⟨rfl,h0,hD⟩|⟨g,cap,cur,rfl,hD,hm,hcap,hmax,hcs,htk⟩
  · have hx : xs = []:=List.eq_nil_of_length_eq_zero h0
    subst hx
    refine (hN none 0 w).mono ?_
    rintro e' w' ⟨rfl,rfl⟩
    have e0 : sortBy cf ([] : List α) = []:=by simp [sortBy]
    exact ⟨_,rfl,_,h,⟨rfl,by rw [e0]⟩,H0⟩
  · have hm' : w.heap[g]? = some (.cells cur e (0,0)):=hm
    have hfl:=flatMap_len hk xs
    have hcell : ∀ j,j < xs.length * k → cur[j]? = (xs.flatMap enc)[j]?:=by
      intro j hj
      rw [← htk,List.getElem?_take,if_pos hj,Array.getElem?_toList]
    have hcmp' : CmpLays P gf cb enc k cf g 0 xs.toArray.size w:=fun m os dk hdk x y => by
      refine (hcmp x y (sortWorldK enc k w g 0 m dk os) [] (fun i o e => by cases e) ⟨[],trivial,by simp,by simp⟩).mono ?_
      rintro e' w' ⟨v,rfl,Es,h',⟨rfl,rfl⟩,H⟩
      exact ⟨rfl,H.grown⟩
    refine (hC g 0 cap xs.toArray w hcmp' ?_ ?_ (by simp;omega)).mono ?_
    · intro j hj
      rw [flatK_eq hk] at hj
      have hj' : j < xs.length * k:=by rw [← hfl];simpa using hj
      refine ⟨?_,?_⟩
      · rw [flatK_eq hk]
        have hjl : j < (xs.flatMap enc).length:=by rw [hfl];exact hj'
        simp only [World.cell?,hm',Nat.zero_add]
        have:=hcell j hj'
        rw [List.getElem?_eq_getElem hjl] at this
        rw [getElem!_pos (xs.flatMap enc).toArray j (by simpa using hjl)]
        simpa using this
      · simp [World.frozen?,hm']
    · exact (Array.getElem?_eq_some_iff.1 hm').1
    rintro e' w' ⟨rfl,m,os,rfl⟩
    refine ⟨_,rfl,_,h,⟨rfl,rfl⟩,?_⟩
    have hsl:=sortBy_len cf xs
    have hfs:=flatMap_len hk (sortBy cf xs)
    have hglt : g < w.heap.size:=(Array.getElem?_eq_some_iff.1 hm').1
    have hold : ∀ i,i < w.heap.size → (sortWorldK enc k w g 0 m (xs.toArray.toList.mergeSort fun x y => !(ltOf cf) y x).toArray os).heap[i]? = (w.heap.modify g (Sort.onCells (Sort.putCells id 0 ((sortBy cf xs).flatMap enc).toArray)))[i]?:=by
      intro i hi
      unfold sortWorldK putRowK
      rw [flatK_eq hk]
      show (w.heap.modify g _ ++ os)[i]? = _
      rw [Array.getElem?_append_left (by simpa using hi)];rfl
    refine H0.repl .here rfl rfl rfl (by simp [sortWorldK,grow,putRowK,putRow,mapBlock,Sort.ahead]) (hdr:=by show w.drawn ≤ w.drawn + m;omega) fun D1 hA1 hDn hDb => ?_
    have hD1 : D1 = [g]:=by
      rcases hA1.2 with ⟨e1,_⟩|⟨g',c',cur',e1,e2,_⟩
      · cases e1
      · injection e1 with e1 _;injection e1 with e1;injection e1 with e1;rw [e2,e1]
    subst hD1
    refine ⟨[g],⟨by rw [hfs,hsl],.inr ⟨g,cap,Sort.putCells id 0 ((sortBy cf xs).flatMap enc).toArray cur,rfl,rfl,?_,hcap,hmax,by simp [Sort.putCells,hcs],?_⟩⟩,by simp,?_,?_⟩
    · show (sortWorldK enc k w g 0 m _ os).heap[g]? = _
      rw [hold g hglt,Array.getElem?_modify,if_pos rfl,hm']
      rfl
    · apply List.ext_getElem?
      intro j
      rw [List.getElem?_take]
      by_cases hj : j < xs.length * k
      · rw [if_pos hj,Array.getElem?_toList]
        have hjs : j < ((sortBy cf xs).flatMap enc).length:=by rw [hfs,hsl];exact hj
        have hcj : j < cur.size:=by
          have : xs.length * k ≤ cap * k:=Nat.mul_le_mul_right _ hcap
          omega
        simp only [Sort.putCells,Array.getElem?_mapIdx,Array.getElem?_eq_getElem hcj,Option.map_some,Nat.zero_le,true_and,Nat.zero_add,List.size_toArray,hjs,if_true,Nat.sub_zero,List.getElem?_eq_getElem hjs]
        rw [getElem!_pos _ j (by simpa using hjs)]
        simp
      · rw [if_neg hj,List.getElem?_eq_none (by rw [hfs,hsl];omega)]
    · intro i hi
      simp only [List.mem_singleton] at hi
      subst hi
      exact ⟨.inl (by simp),by simp [sortWorldK,grow,putRowK,putRow,mapBlock,Sort.ahead];omega⟩
    · intro i hi hni
      have hne : g ≠ i:=fun e => hni (by simp [e])
      show (sortWorldK enc k w g 0 m _ os).heap[i]? = _
      rw [hold i hi,Array.getElem?_modify,if_neg hne]
end Go.Hw

import Derived.Test.YtphlhpbmkejbaabGreatDoorHD
set_option linter.unusedSimpArgs false
set_option linter.unusedVariables false
namespace Go.Hw
open Go
theorem Own.app : ∀ {As Bs : List Asn} {Ds Fs : List (List Nat)} {m : Ro},Own As Ds m → Own Bs Fs m → Own (As ++ Bs) (Ds ++ Fs) m
  | [],_,[],_,_,_,h => h
  | _ :: _,_,_ :: _,_,_,⟨h1,h2⟩,h => ⟨h1,Own.app h2 h⟩
  | [],_,_ :: _,_,_,h,_ => h.elim
  | _ :: _,_,[],_,_,h,_ => h.elim
theorem Own.cut : ∀ {As Bs : List Asn} {Ds : List (List Nat)} {m : Ro},Own (As ++ Bs) Ds m → ∃ D1 D2,Ds = D1 ++ D2 ∧ Own As D1 m ∧ Own Bs D2 m
  | [],_,Ds,_,h => ⟨[],Ds,rfl,trivial,h⟩
  | _ :: As,Bs,D :: Ds,_,⟨h1,h2⟩ => by
    obtain ⟨D1,D2,e,q1,q2⟩:=Own.cut (As:=As) (Bs:=Bs) h2
    exact ⟨D :: D1,D2,by rw [e];rfl,⟨h1,q1⟩,q2⟩
  | _ :: _,_,[],_,h => h.elim
def SepA (As : List Asn) : Asn:=⟨fun D m => ∃ Ds,Own As Ds m ∧ D = Ds.flatten,fun D m m' h ⟨Ds,h1,h2⟩ => ⟨Ds,Own.loc (by subst h2;exact h) h1,h2⟩⟩
section
variable {w0 : World} {X0 : List Nat} {h0 h : Ro} {As Bs Es Fs : List Asn} {w : World}
theorem Hp.sepOpen (H : Hp w0 X0 h0 (SepA As :: Fs) h w) : Hp w0 X0 h0 (As ++ Fs) h w:=by
  obtain ⟨Ds,ho,hn,hb⟩:=H.own
  match Ds,ho with
  | D :: Ds,⟨⟨D1,q1,q2⟩,q3⟩ =>
    subst q2
    exact ⟨H.os,H.tape,H.output,H.size,H.dr,H.old,H.ro,H.le,H.new,D1 ++ Ds,q1.app q3,by rw [List.flatten_append];exact hn,by rw [List.flatten_append];exact hb⟩
theorem Hp.sepClose (H : Hp w0 X0 h0 (As ++ Fs) h w) : Hp w0 X0 h0 (SepA As :: Fs) h w:=by
  obtain ⟨Ds,ho,hn,hb⟩:=H.own
  obtain ⟨D1,D2,e,q1,q2⟩:=ho.cut
  subst e
  rw [List.flatten_append] at hn hb
  exact ⟨H.os,H.tape,H.output,H.size,H.dr,H.old,H.ro,H.le,H.new,D1.flatten :: D2,⟨⟨D1,q1,rfl⟩,q2⟩,hn,hb⟩
end
section
variable {C : Ctx} {ds : List Deferred} {l : Sl} {As Bs Es Fs : List Asn} {h : Ro} {K : List Item} {G : Value → List Asn → Ro → Prop}
theorem GO_sepOpen (hT : Take Es (SepA As) Fs) (g : GO C ds l (As ++ Fs) h K) : GO C ds l Es h K:=fun a w s => g a w ⟨s.size,s.defers,s.slots,(s.hp.front hT).sepOpen⟩
theorem GO_sepClose (g : GO C ds l (SepA As :: Fs) h K) : GO C ds l (As ++ Fs) h K:=fun a w s => g a w ⟨s.size,s.defers,s.slots,s.hp.sepClose⟩
theorem GO_sepAt {α : Type} {g : α → List Asn} {pre post : List α} {x : α} {fs : List α} (hT : Take Es (SepA (fs.flatMap g)) Fs) (e : fs = pre ++ x :: post) (k : GO C ds l (g x ++ (SepA (pre.flatMap g ++ post.flatMap g) :: Fs)) h K) : GO C ds l Es h K :=
  GO_sepOpen hT (GO_perm (Fs:=(pre.flatMap g ++ post.flatMap g) ++ (g x ++ Fs)) (by
    subst e
    simp only [List.flatMap_append,List.flatMap_cons,List.append_assoc]
    exact List.Perm.append_left _ (by rw [← List.append_assoc,← List.append_assoc];exact List.Perm.append_right _ List.perm_append_comm)) (GO_sepClose (GO_perm List.perm_middle.symm k)))
theorem GO_sepBack {α : Type} {g : α → List Asn} {pre post : List α} {y : α} {fs : List α} (e : fs = pre ++ y :: post) (hT : Takes Es (SepA (pre.flatMap g ++ post.flatMap g) :: g y) Fs) (k : GO C ds l (SepA (fs.flatMap g) :: Fs) h K) : GO C ds l Es h K :=
  GO_perm hT.perm (GO_sepOpen (Fs:=g y ++ Fs) (.here) (GO_perm (Fs:=fs.flatMap g ++ Fs) (by
    subst e
    show ((pre.flatMap g ++ post.flatMap g) ++ (g y ++ Fs)).Perm ((pre ++ y :: post).flatMap g ++ Fs)
    simp only [List.flatMap_append,List.flatMap_cons,List.append_assoc]
    exact List.Perm.append_left _ (by rw [← List.append_assoc,← List.append_assoc];exact List.Perm.append_right _ List.perm_append_comm)) (GO_sepClose k)))
theorem GO_sepNil (g : GO C ds l (SepA [] :: Es) h K) : GO C ds l Es h K:=GO_sepClose (As:=[]) g
end
theorem Own.each : ∀ {As : List Asn} {Ds : List (List Nat)} {m : Ro},Own As Ds m → ∀ A ∈ As,∃ D,A.holds D m
  | A :: As,D :: Ds,m,⟨h1,h2⟩,B,hB => by
    rcases List.mem_cons.1 hB with e|e
    · exact ⟨D,e ▸ h1⟩
    · exact Own.each h2 B e
  | [],_,_,_,B,hB => by cases hB
  | _ :: _,[],_,h,_,_ => h.elim
theorem SepA.each {As : List Asn} {D : List Nat} {m : Ro} (h : (SepA As).holds D m) : ∀ A ∈ As,∃ D,A.holds D m:=by
  obtain ⟨Ds,h1,_⟩:=h
  exact h1.each
end Go.Hw
set_option linter.unusedVariables false
namespace Go.Hw
open Go Go.Sort Go.Proofs
theorem flat1 {α : Type} (enc : α → Value) : ∀ xs : List α,xs.flatMap (fun x => [enc x]) = xs.map enc
  | [] => rfl
  | x :: r => by rw [List.flatMap_cons,flat1 enc r];rfl
theorem sortFnP1 {α : Type} [Inhabited α] {P : Program} {f gf : FuncId} {cb : Array Value} (enc : α → Value) (cf : α → α → Int) (h : Ro)
    (hC : ∀ (blk off cap : Nat) (d : Array α) (w : World),CmpLays1 P gf cb enc cf blk off d.size w → Holds enc w blk off d → blk < w.heap.size → d.size < 4611686018427387904 →
      Calls P f #[.slice (some ⟨blk,off,none⟩) d.size cap,.func (.func gf) #[] cb] w fun e w' => e = .returned (.tuple #[]) ∧ ∃ d' n os,PermIn 0 d.size d d' ∧ SortedIn (ltOf cf) 0 d.size d' ∧ w' = sortWorld enc w blk off n d' os)
    (hN : ∀ (p : Option Addr) (cap : Nat) (w : World),Calls P f #[.slice p 0 cap,.func (.func gf) #[] cb] w fun e w' => e = .returned (.tuple #[]) ∧ w' = w)
    (hcmp : ∀ x y,Res P gf (#[enc x,enc y] ++ cb) h fun u _ => u = .int .i64 (cf x y))
    (e : TypeId) (v : Value) (xs : List α) (n : Nat) (hn : n ≤ 1000000000) (hx : xs.length = n) :
    Fn P f #[v,.func (.func gf) #[] cb] [OwnS e 1 v n (xs.flatMap fun x => [enc x])] h fun u Es _ => u = .tuple #[] ∧ ∃ ys : List α,ys.Perm xs ∧ (ys.Pairwise fun a b => ltOf cf b a = false) ∧ Es = [OwnS e 1 v n (ys.flatMap fun x => [enc x])]:=by
  subst hx
  rw [flat1 enc xs]
  intro w X0 hl ⟨Ds,ho,hnd,hb⟩
  have H0 : Hp w X0 h [OwnS e 1 v xs.length (xs.map enc)] h w:=⟨rfl,rfl,rfl,Nat.le_refl _,Nat.le_refl _,fun _ _ _ => rfl,hl,Le.refl _,fun i o e => .inl e,Ds,ho,hnd,fun b h1 => ⟨(hb b h1).1,.inr (hb b h1).2.1,(hb b h1).2.2⟩⟩
  have hnone : ∀ D,(OwnS e 1 v xs.length (xs.map enc)).holds D (mem w) → (∃ D',Ds = [D'] ∧ (OwnS e 1 v xs.length (xs.map enc)).holds D' (mem w)):=by
    intro D _
    match Ds,ho with
    | [D'],⟨h1,_⟩ => exact ⟨D',rfl,h1⟩
  obtain ⟨D0,hA0⟩:=H0.get (List.Mem.head _)
  obtain ⟨D,hDs,hA⟩:=hnone D0 hA0
  have hg0 : ∀ b ∈ D,h b = none:=fun b hbD => (hb b (by rw [hDs];simp [hbD])).1
  obtain ⟨hlen,hr⟩:=hA
  rcases hr with ⟨rfl,h0,hD⟩|⟨g,cap,cur,rfl,hD,hm,hcap,hmax,hcs,htk⟩
  · have hx : xs = []:=List.eq_nil_of_length_eq_zero h0
    subst hx
    refine (hN none 0 w).mono ?_
    rintro e' w' ⟨rfl,rfl⟩
    exact ⟨_,rfl,_,h,⟨rfl,[],.refl _,.nil,rfl⟩,H0⟩
  · have hm' : w.heap[g]? = some (.cells cur e (0,0)):=hm
    have hgn : h g = none:=hg0 g (by rw [hD];simp)
    rw [Nat.mul_one] at hcs htk
    have hcell : ∀ j,j < xs.length → cur[j]? = (xs.map enc)[j]?:=by
      intro j hj
      rw [← htk,List.getElem?_take,if_pos hj,Array.getElem?_toList]
    have hglt : g < w.heap.size:=(Array.getElem?_eq_some_iff.1 hm').1
    have hold0 : ∀ (m : Nat) (dk : Array α) (os : Array Obj) (i : Nat),i < w.heap.size → i ≠ g → (sortWorld enc w g 0 m dk os).heap[i]? = w.heap[i]?:=by
      intro m dk os i hi hne
      unfold sortWorld
      show (w.heap.modify g _ ++ os)[i]? = _
      rw [Array.getElem?_append_left (by simpa using hi),Array.getElem?_modify,if_neg (fun e => hne e.symm)]
    have hcmp' : CmpLays1 P gf cb enc cf g 0 xs.toArray.size w:=fun m os dk hdk x y => by
      have hle : Le h (mem (sortWorld enc w g 0 m dk os)):=fun i o hi => by
        have h1:=hl i o hi
        have hne : i ≠ g:=fun e => by subst e;rw [hgn] at hi;cases hi
        have hlt : i < w.heap.size:=Le.lt hl hi
        show (sortWorld enc w g 0 m dk os).heap[i]? = some o
        rw [hold0 m dk os i hlt hne];exact h1
      refine (hcmp x y (sortWorld enc w g 0 m dk os) [] hle ⟨[],trivial,by simp,by simp⟩).mono ?_
      rintro e' w' ⟨v,rfl,Es,h',⟨rfl,rfl⟩,H⟩
      exact ⟨rfl,H.grown⟩
    refine (hC g 0 cap xs.toArray w hcmp' ?_ hglt (by simp;omega)).mono ?_
    · intro j hj
      have hj' : j < xs.length:=by simpa using hj
      refine ⟨?_,?_⟩
      · simp only [World.cell?,hm',Nat.zero_add]
        have:=hcell j hj'
        rw [List.getElem?_map,List.getElem?_eq_getElem hj'] at this
        rw [getElem!_pos xs.toArray j (by simpa using hj')]
        simpa using this
      · simp [World.frozen?,hm']
    rintro e' w' ⟨rfl,d',m,os,hP,hS,rfl⟩
    obtain ⟨hsz,_,hperm⟩:=hP
    have e1 : d'.extract 0 xs.toArray.size = d':=by rw [← hsz];exact Array.extract_size
    rw [e1,Array.extract_size] at hperm
    have hsl : d'.toList.length = xs.length:=by simpa using hsz
    obtain ⟨ys,hys⟩ : ∃ ys,ys = d'.toList:=⟨_,rfl⟩
    have hyd : d' = ys.toArray:=by rw [hys]
    rw [← hys] at hsl hperm
    have hsort : ys.Pairwise fun a b => ltOf cf b a = false:=by
      rw [List.pairwise_iff_getElem]
      intro i j hi hj hij
      have:=hS i j (Nat.zero_le _) hij (by rw [hsl] at hj;simpa using hj)
      rw [hyd] at this
      rwa [getElem!_pos ys.toArray j (by simpa using hj),getElem!_pos ys.toArray i (by simpa using hi),List.getElem_toArray,List.getElem_toArray] at this
    refine ⟨_,rfl,_,h,⟨rfl,ys,by simpa using hperm,hsort,rfl⟩,?_⟩
    subst hyd
    rw [flat1 enc ys]
    have hold : ∀ i,i < w.heap.size → (sortWorld enc w g 0 m ys.toArray os).heap[i]? = (w.heap.modify g (Sort.onCells (Sort.putCells enc 0 ys.toArray)))[i]?:=by
      intro i hi
      unfold sortWorld
      show (w.heap.modify g _ ++ os)[i]? = _
      rw [Array.getElem?_append_left (by simpa using hi)]
    refine H0.repl .here rfl rfl rfl (by simp [sortWorld,grow,putRow,mapBlock,Sort.ahead]) (hdr:=by show w.drawn ≤ w.drawn + m;omega) fun D1 hA1 hDn hDb => ?_
    have hD1 : D1 = [g]:=by
      rcases hA1.2 with ⟨e1,_⟩|⟨g',c',cur',e1,e2,_⟩
      · cases e1
      · injection e1 with e1 _;injection e1 with e1;injection e1 with e1;rw [e2,e1]
    subst hD1
    refine ⟨[g],⟨by rw [List.length_map,hsl,Nat.mul_one],.inr ⟨g,cap,Sort.putCells enc 0 ys.toArray cur,rfl,rfl,?_,hcap,hmax,by simp [Sort.putCells,hcs],?_⟩⟩,by simp,?_,?_⟩
    · show (sortWorld enc w g 0 m _ os).heap[g]? = _
      rw [hold g hglt,Array.getElem?_modify,if_pos rfl,hm']
      rfl
    · apply List.ext_getElem?
      intro j
      rw [List.getElem?_take,Nat.mul_one]
      by_cases hj : j < xs.length
      · rw [if_pos hj,Array.getElem?_toList]
        have hjs : j < ys.length:=by rw [hsl];exact hj
        have hcj : j < cur.size:=by omega
        simp only [Sort.putCells,Array.getElem?_mapIdx,Array.getElem?_eq_getElem hcj,Option.map_some,Nat.zero_le,true_and,Nat.zero_add,List.size_toArray,hjs,if_true,Nat.sub_zero,List.getElem?_map,List.getElem?_eq_getElem hjs]
        rw [getElem!_pos _ j (by simpa using hjs)]
        simp
      · rw [if_neg hj,List.getElem?_eq_none (by rw [List.length_map,hsl];omega)]
    · intro i hi
      simp only [List.mem_singleton] at hi
      subst hi
      exact ⟨.inl (by simp),by simp [sortWorld,grow,putRow,mapBlock,Sort.ahead];try omega⟩
    · intro i hi hni
      have hne : g ≠ i:=fun e => hni (by simp [e])
      show (sortWorld enc w g 0 m _ os).heap[i]? = _
      rw [hold i hi,Array.getElem?_modify,if_neg hne]
end Go.Hw

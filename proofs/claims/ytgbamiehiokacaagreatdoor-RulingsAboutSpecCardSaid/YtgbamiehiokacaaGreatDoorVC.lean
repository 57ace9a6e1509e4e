import Derived.Test.YtgbamiehiokacaaGreatDoorVB
import Derived.Test.YtgbamiehiokacaaGreatDoorFC
import Derived.Test.YtgbamiehiokacaaGreatDoorEC
set_option linter.unusedVariables false
set_option linter.unusedSimpArgs false
set_option maxRecDepth 100000
set_option maxHeartbeats 8000000
namespace Go.Hw
open Go
attribute [local irreducible] GO GOl GDp Val Fn Res CellsAt ValE Blk OwnS MapA OwnPf Has Yl SepA forceL
open Go.Proofs (Tryz.prog)
theorem lastR_of {rs : List (Fsh × Fct)} {C : List Fct} {n : Int} (e : fcs rs = C.filter fun f => decide (OfCase n f)) : lastR rs = lastI C n:=by
 have h1 : lastR rs = (fcs rs).foldl (fun m f => max m f.ru.inst) 0:=by unfold lastR fcs;rw [List.foldl_map]
 rw [h1,e,List.foldl_filter]
 unfold lastI
 congr 1
 funext m f
 by_cases h : OfCase n f <;> simp [h]
theorem standR_of {rs : List (Fsh × Fct)} {C : List Fct} {n : Int} (e : fcs rs = C.filter fun f => decide (OfCase n f)) (i : Int) : (standR rs i).map (·.2) = standI C n i:=by
 have h1 : (standR rs i).map (·.2) = (fcs rs).find? fun f => decide (f.ru.inst = i):=by unfold standR fcs;rw [List.find?_map];rfl
 rw [h1,e,List.find?_filter]
 unfold standI
 congr 1
 funext f
 simp
theorem FilesAt.has {h : Ro} {C : List Fct} {bs : List FileS} (a : FilesAt h C bs) {x : FileS} (hx : x ∈ bs) : ∃ f ∈ C,OfCase x.num f:=(Ep C x.num).1 (a.nums ▸ List.mem_map_of_mem hx)
theorem FilesAt.last {h : Ro} {C : List Fct} {bs : List FileS} (a : FilesAt h C bs) {x : FileS} (hx : x ∈ bs) : ∃ j : Nat,lastR x.rs = (j : Int) ∧ lastI C x.num = (j : Int) ∧ 1 ≤ j ∧ j < 4:=by
 have e:=lastR_of (a.rs x hx)
 obtain ⟨h0,f,hf⟩:=Ks a.ok (a.has hx)
 obtain ⟨h1,h2,h3⟩:=Gx hf
 have:=Sa (a.ok f h1) h2.1
 exact ⟨(lastI C x.num).toNat,by omega,by omega,by omega,by omega⟩
theorem FilesAt.held {h : Ro} {C : List Fct} {bs : List FileS} (a : FilesAt h C bs) {x : FileS} (hx : x ∈ bs) {j : Nat} (hj : lastI C x.num = (j : Int)) (h1 : 1 ≤ j) (h4 : j < 4) : x.s.getD j false = decide (HeldI C x.num):=by
 rw [Bool.eq_iff_iff,decide_eq_true_eq,a.sus x hx j h4]
 unfold SuspIn HeldI
 rw [hj]
 exact ⟨fun h => ⟨by omega,h⟩,fun h => h.2⟩
theorem FilesAt.stand {h : Ro} {C : List Fct} {bs : List FileS} (a : FilesAt h C bs) {x : FileS} (hx : x ∈ bs) (i : Int) : (standR x.rs i).map (·.2) = standI C x.num i:=standR_of (a.rs x hx) i
theorem Pj {rs : List (Fsh × Fct)} {i : Int} {p : Fsh × Fct} (h : standR rs i = some p) : p ∈ rs:=List.mem_of_find?_eq_some h
def forceN (C : List Fct) (ns : List Int) : List Fct:=ns.filterMap fun n => if HeldI C n then none else standI C n (lastI C n)
open Classical in
theorem Pw (C : List Fct) : forceN C (casesL C) = forceL C:=by
 unfold forceN forceL
 congr 1
 funext n
 by_cases h : HeldI C n
 · rw [if_pos h,if_pos h]
 · rw [if_neg h,if_neg h]
theorem Oa (C : List Fct) (ns : List Int) (n : Int) : forceN C (ns ++ [n]) = forceN C ns ++ (if HeldI C n then none else standI C n (lastI C n)).toList:=by
 unfold forceN
 rw [List.filterMap_append,List.filterMap_cons,List.filterMap_nil]
 cases h : (if HeldI C n then none else standI C n (lastI C n)) <;> rfl
theorem Pv (C : List Fct) (ns : List Int) : (forceN C ns).length ≤ ns.length:=List.length_filterMap_le _ _
theorem Uq (h : Ro) (hG : PowG h) (A : Option Addr) (n c : Nat) (l : List (Fsh × Fct)) (hx : FactsAt h A n l) : Fn Tryz.prog 61 #[.slice A n c] [] h (fun u Es h' => ∃ A' c' l',u = .slice A' l'.length c' ∧ Es = [OwnS 54 82 (.slice A' l'.length c') l'.length (l'.flatMap encF82)] ∧ (∀ p ∈ l',FGd h' p) ∧ fcs l' = forceL (canonL (fcs l)) ∧ l'.length ≤ 1000000):=by
 refine Bu (args:=[_]) ts_ok Go.Proofs.Tryz.func61 rfl rfl fun w0 X0 => ?_
 obtain ⟨C,hC⟩ : ∃ C,C = canonL (fcs l):=⟨_,rfl⟩
 have hfi:=fun h' (hl : Le h h') => Xh h' (hG.le hl) A n c l (hx.le hl)
 rw [← hC] at hfi ⊢
 repeat' (first|apply Ad|apply Ag|apply Aa|apply Ab|(apply Ac;(iterate 3 exact J))|(apply Aj;(iterate 3 exact J);(first|(apply Bf;exact J;exact has52;exact hfi _ QL;rintro w1 h1 hle1 ⟨A3,c3,bs,rfl,hsl,hfs⟩;skip))))
 have hsm:=hfs.small
 refine Do 54 82 ?_
 refine Bh (X:=Nat × List (Fsh × Fct) × Option Addr × Nat × Ro) (fun x => x.1 ≤ bs.length ∧ Le h1 x.2.2.2.2 ∧ (∀ p ∈ x.2.1,FGd h1 p) ∧ fcs x.2.1 = forceN C ((bs.take x.1).map (·.num))) (fun x => bs.length - x.1)
  (fun x => [(12,.int .i64 x.1),(11,.int .i64 bs.length),(10,.slice A3 bs.length c3),(2,.slice x.2.2.1 x.2.1.length x.2.2.2.1)])
  (fun x => [OwnS 54 82 (.slice x.2.2.1 x.2.1.length x.2.2.2.1) x.2.1.length (x.2.1.flatMap encF82)]) (fun x => x.2.2.2.2) (0,[],none,0,h1) ⟨by dsimp only;omega,Le.refl _,by simp,rfl⟩ QS QT rfl ?_
 rintro ⟨k,out,A4,c4,hh⟩ ⟨hk,hle,hgd,ho⟩ ih
 dsimp only at hk hle hgd ho ih ⊢
 have hol : out.length ≤ k:=by
  have q:=congrArg List.length ho
  have q2:=Pv C ((bs.take k).map (·.num))
  rw [List.length_map] at q
  rw [List.length_map,List.length_take] at q2
  omega
 by_cases hkn : k < bs.length
 · have a1:=hsl.addrD hkn
   have c1:=(hsl.cellsD default hkn).le hle
   have et:=Cq default (xs:=bs) rfl hkn
   have hmem : bs.getD k default ∈ bs:=Dt default hkn
   generalize bs.getD k default = x at *
   obtain ⟨j,hj1,hj2,hj3,hj4⟩:=hfs.last hmem
   have hxa:=(hfs.at_ x hmem).le hle
   have hhe:=heldF_c hh x hxa hj1 hj4
   rw [hfs.held hmem hj2 hj3 hj4] at hhe
   have hla:=lastF_c hh x hxa
   rw [hj1] at hla
   have hst:=Mw hh x hxa (j : Int)
   have hsr:=hfs.stand hmem (j : Int)
   have e0 : forceN C ((bs.take (k + 1)).map (·.num)) = fcs out ++ (if HeldI C x.num then none else standI C x.num (j : Int)).toList:=by rw [et,List.map_append,ho];show forceN C (_ ++ [x.num]) = _;rw [Oa,hj2]
   by_cases hH : HeldI C x.num
   · rw [decide_eq_true hH] at hhe
     rw [if_pos hH] at e0
     repeat' (first|apply Ad|apply Ap|apply Ag|apply Aa|apply Ab|(apply Bi;exact J)|(apply Be;(iterate 3 exact J);omega;exact J;exact J)|(apply Ac;(iterate 3 exact J))|(apply Bc;exact J;exact J;(first|(apply Bb (j:=k);(iterate 5 exact J);exact a1;(with_reducible exact J);omega)|(apply Aw;exact J;exact Bp rfl c1 rfl));exact QA)|(apply Aj;(iterate 3 exact J);(first|(apply Cm (f:=74) (fs:=[fileP x]) (cs:=[]);exact J;exact J;exact has74;exact hhe;skip)))|(apply Af;exact J;all_goals (intro hc;try simp only [hcS,reduceCtorEq] at hc;try (exfalso;omega))))
     all_goals first
      | (exfalso;omega)
      | (have h3:=ih (k + 1,out,A4,c4,hh) ⟨by dsimp only;omega,hle,hgd,by dsimp only;rw [e0];simp⟩ (by dsimp only;omega)
         dsimp only at h3
         refine Bm QS QT (h3))
   · rw [decide_eq_false hH] at hhe
     rw [if_neg hH] at e0
     obtain ⟨_,f9,hf9⟩:=Ks hfs.ok (hfs.has hmem)
     rw [hj2] at hf9
     rw [hf9] at e0 hsr
     obtain ⟨p,hp,hpf⟩:=Option.map_eq_some_iff.1 hsr
     rw [hp] at hst
     have hpg : FGd h1 p:=((hfs.at_ x hmem)).good p (Pj hp)
     have hst2 : Val Tryz.prog 53 #[fileP x,.int .i64 j] hh (.tuple #[factV p.1 p.2,.bool true]):=hst
     repeat' (first|apply Ad|apply Ap|apply Ah|apply Ag|apply Aa|apply Ab|(apply Be;(iterate 3 exact J);omega;exact J;exact J)|(apply Ac;(iterate 3 exact J))|(apply Aq;exact J;exact Bd rfl QM rfl;exact J;exact J)|(apply Bc;exact J;exact J;(first|(apply Bb (j:=k);(iterate 5 exact J);exact a1;(with_reducible exact J);omega)|(apply Aw;exact J;exact Bp rfl c1 rfl));exact QA)|(apply Aj;(iterate 3 exact J);(first|(apply Ao;(iterate 3 exact J);exact QR;(iterate 3 exact J);skip)|(apply At;exact J;intro b;skip)|(apply Cm (f:=74) (fs:=[fileP x]) (cs:=[]);exact J;exact J;exact has74;exact hhe;skip)|(apply Ai;exact J;exact has143;exact hla;skip)|(apply Cm (f:=53) (fs:=[fileP x]) (cs:=[]);exact J;exact J;exact has53;exact hst2;skip)|(apply Ar (enc:=encF82) (n:=1) [p];(iterate 3 exact J);exact List.cons_ne_nil _ _;(iterate 4 exact J);exact Bl;exact J;exact J;intro b5 h5 hle5 hs5;skip)|(apply Bo (enc:=encF82) (xs:=out);(iterate 7 exact J);exact hs5;exact Bl;exact Fe;intro v1;exact QR;omega;exact J;intro A5 c5;skip)))|(apply Af;exact J;all_goals (intro hc;try simp only [hcS,reduceCtorEq] at hc;try (exfalso;omega))))
     all_goals first
      | (exfalso;omega)
      | (have h3:=ih (k + 1,out ++ [p],A5,c5,h5) ⟨by dsimp only;omega,hle.trans hle5,fun q hq => by
          rcases List.mem_append.1 hq with w|w
          · exact hgd q w
          · rw [List.mem_singleton] at w;subst w;exact hpg,by dsimp only;rw [e0];show fcs (out ++ [p]) = _;simp [fcs,hpf]⟩ (by dsimp only;omega)
         dsimp only at h3
         rw [List.length_append] at h3
         refine Bm QS QT (h3))
 · rw [List.take_of_length_le (by omega),hfs.nums,Pw] at ho
   clear ih
   repeat' (first|apply Ad|apply Aa|apply Ab|(apply Bi;exact J)|(apply Ac;(iterate 3 exact J))|(apply Af;exact J;all_goals (intro hc;try simp only [hcS,reduceCtorEq] at hc;try (exfalso;omega))))
   all_goals first
    | (exfalso;omega)
    | (exact Cf rfl rfl rfl (.cons_cons _ (List.nil_sublist _)) ⟨A4,c4,out,rfl,rfl,fun p hp => (hgd p hp).le hle,ho,by omega⟩)
theorem Kn (h : Ro) (hG : PowG h) (A : Option Addr) (n c : Nat) (l : List (Fsh × Fct)) (hx : FactsAt h A n l) : Res Tryz.prog 22 #[.slice A n c] h (fun u h' => ∃ A' c' rl,u = .slice A' rl.length c' ∧ SlOf rulC 17 h' A' rl.length rl ∧ rl = (forceL (canonL (fcs l))).map (·.ru) ∧ rl.length ≤ 1000000):=by
 refine Bn (args:=[_]) ts_ok Go.Proofs.Tryz.func22 rfl rfl fun w0 X0 => ?_
 obtain ⟨L,hL⟩ : ∃ L,L = forceL (canonL (fcs l)):=⟨_,rfl⟩
 have hfi:=fun h' (hl : Le h h') => Uq h' (hG.le hl) A n c l (hx.le hl)
 rw [← hL] at hfi ⊢
 repeat' (first|apply Ad|apply Ag|apply Aa|apply Ab|(apply Ac;(iterate 3 exact J))|(apply Aj;(iterate 3 exact J);(first|(apply Bt;exact J;exact has61;exact hfi _ QL;exact QT;rintro w1 Ec h1 hle1 ⟨A3,c3,l3,rfl,rfl,hg3,hf3,hn3⟩;skip))))
 have hle1 : Le h h1:=QL
 refine Dw (enc:=encF82) (e:=54) (sz:=82) (n:=l3.length) (xs:=l3) Bl rfl QK ?_
 intro A8 c8 h9 hle9 e9 hnc9 hs9
 cases e9
 refine Do 44 17 ?_
 refine Bh (X:=Nat × List FRul × Option Addr × Nat × Ro) (fun x => x.1 ≤ l3.length ∧ Le h9 x.2.2.2.2 ∧ x.2.1 = (fcs (l3.take x.1)).map (·.ru)) (fun x => l3.length - x.1)
  (fun x => [(8,.int .i64 x.1),(7,.int .i64 l3.length),(6,.slice A3 l3.length c3),(2,.slice x.2.2.1 x.2.1.length x.2.2.2.1)])
  (fun x => [OwnS 44 17 (.slice x.2.2.1 x.2.1.length x.2.2.2.1) x.2.1.length (x.2.1.flatMap rulC)]) (fun x => x.2.2.2.2) (0,[],none,0,h9) ⟨by dsimp only;omega,Le.refl _,rfl⟩ QS QT rfl ?_
 rintro ⟨k,out,A4,c4,hh⟩ ⟨hk,hle,ho⟩ ih
 dsimp only at hk hle ho ih ⊢
 have hol : out.length ≤ k:=by
  rw [ho,List.length_map,List.length_map,List.length_take];omega
 by_cases hkn : k < l3.length
 · have a1:=hs9.addrD hkn
   have c1:=(hs9.cellsD p0 hkn).le hle
   have et:=Cq p0 (xs:=l3) rfl hkn
   generalize l3.getD k p0 = p at *
   repeat' (first|apply Ad|apply Ap|apply Ah|apply Ag|apply Aa|apply Ab|(apply Be;(iterate 3 exact J);omega;exact J;exact J)|(apply Ac;(iterate 3 exact J))|(apply Aq;exact J;exact Bd rfl QM rfl;exact J;exact J)|(apply Bc;exact J;exact J;(first|(apply Bb (j:=k);(iterate 5 exact J);exact a1;(with_reducible exact J);omega)|(apply Aw;exact J;exact Bp rfl c1 rfl));exact QA)|(apply Aj;(iterate 3 exact J);(first|(apply Ao;(iterate 3 exact J);exact QR;(iterate 3 exact J);skip)|(apply At;exact J;intro b;skip)|(apply Ar (enc:=rulC) (n:=1) [p.2.ru];(iterate 3 exact J);exact List.cons_ne_nil _ _;(iterate 4 exact J);exact fun _ => rfl;exact J;exact J;intro b5 h5 hle5 hs5;skip)|(apply Bo (enc:=rulC) (xs:=out);(iterate 7 exact J);exact hs5;exact fun _ => rfl;exact fun x => Bz rfl;intro v1;exact QR;omega;exact J;intro A5 c5;skip)))|(apply Af;exact J;all_goals (intro hc;try simp only [hcS,reduceCtorEq] at hc;try (exfalso;omega))))
   all_goals first
    | (exfalso;omega)
    | (have h3:=ih (k + 1,out ++ [p.2.ru],A5,c5,h5) ⟨by dsimp only;omega,hle.trans hle5,by dsimp only;rw [ho,et];simp [fcs]⟩ (by dsimp only;omega)
       dsimp only at h3
       rw [List.length_append] at h3
       refine Bm QS QT (h3))
 · rw [List.take_of_length_le (by omega),hf3] at ho
   clear ih
   refine Dw (enc:=rulC) (e:=44) (sz:=17) (n:=out.length) (xs:=out) (fun _ => rfl) rfl QK ?_
   intro A7 c7 h7 hle7 e7 hnc7 hs7
   cases e7
   repeat' (first|apply Ad|apply Aa|apply Ab|(apply Bi;exact J)|(apply Ac;(iterate 3 exact J))|(apply Af;exact J;all_goals (intro hc;try simp only [hcS,reduceCtorEq] at hc;try (exfalso;omega))))
   all_goals first
    | (exfalso;omega)
    | (exact Ca rfl rfl rfl ⟨A4,c4,out,rfl,hs7,ho,by omega⟩)
theorem Ok (h : Ro) (hG : PowG h) (A : Option Addr) (n c : Nat) (l : List (Fsh × Fct)) (hx : FactsAt h A n l) (num : Int) : Res Tryz.prog 31 #[.slice A n c,.int .i64 num] h (fun u _ => u = .bool (decide (HeldI (canonL (fcs l)) num))):=by
 refine Bn (args:=[_,_]) ts_ok Go.Proofs.Tryz.func31 rfl rfl fun w0 X0 => ?_
 obtain ⟨C,hC⟩ : ∃ C,C = canonL (fcs l):=⟨_,rfl⟩
 have hfi:=fun h' (hl : Le h h') => Xh h' (hG.le hl) A n c l (hx.le hl)
 rw [← hC] at hfi ⊢
 repeat' (first|apply Ad|apply Ag|apply Aa|apply Ab|(apply Ac;(iterate 3 exact J))|(apply Aj;(iterate 3 exact J);(first|(apply Bf;exact J;exact has52;exact hfi _ QL;rintro w1 h1 hle1 ⟨A3,c3,bs,rfl,hsl,hfs⟩;skip))))
 have hsm:=hfs.small
 refine Bh (X:=Nat) (fun k => k ≤ bs.length ∧ ∀ x ∈ bs.take k,x.num ≠ num) (fun k => bs.length - k)
  (fun k => [(10,.int .i64 k),(9,.int .i64 bs.length),(8,.slice A3 bs.length c3),(1,.int .i64 num)])
  (fun _ => []) (fun _ => h1) 0 ⟨by omega,by simp⟩ QS QT rfl ?_
 rintro k ⟨hk,hI⟩ ih
 by_cases hkn : k < bs.length
 · have a1:=hsl.addrD hkn
   have c1:=hsl.cellsD default hkn
   have et:=Cq default (xs:=bs) rfl hkn
   have hmem : bs.getD k default ∈ bs:=Dt default hkn
   generalize bs.getD k default = x at *
   obtain ⟨j,hj1,hj2,hj3,hj4⟩:=hfs.last hmem
   have hxa:=hfs.at_ x hmem
   have hxc:=hxa.cells
   have hhe:=heldF_c h1 x hxa hj1 hj4
   rw [hfs.held hmem hj2 hj3 hj4] at hhe
   by_cases hr : x.num = num
   · rw [hr] at hhe
     repeat' (first|apply Ad|apply Ap|apply Ag|apply Aa|apply Ab|(apply Ac;(iterate 3 exact J))|(apply Bc;exact J;exact J;(first|(apply Bb (j:=k);(iterate 5 exact J);exact a1;(with_reducible exact J);omega)|(apply Aw;exact J;exact Bp rfl c1 rfl)|(apply Aw;exact J;first|exact Bp rfl (by assumption) rfl|exact By rfl (by assumption) rfl|exact Bv rfl (by assumption) rfl|exact Lv_roF3 rfl (by assumption) rfl));exact QA)|(apply Aj;(iterate 3 exact J);(first|(apply Ai;exact J;exact has74;exact hhe;skip)))|(apply Af;exact J;all_goals (intro hc;try simp only [hcS,reduceCtorEq] at hc;try (exfalso;omega))))
     all_goals first
      | (exfalso;omega)
      | contradiction
      | (exact Ca rfl rfl rfl rfl)
   · have h3:=ih (k + 1) ⟨by omega,fun y hy => by
      rw [et,List.mem_append,List.mem_singleton] at hy
      rcases hy with w|w
      · exact hI y w
      · rw [w];exact hr⟩ (by omega)
     repeat' (first|apply Ad|apply Ap|apply Ah|apply Ag|apply Aa|apply Ab|(apply Be;(iterate 3 exact J);omega;exact J;exact J)|(apply Ac;(iterate 3 exact J))|(apply Bc;exact J;exact J;(first|(apply Bb (j:=k);(iterate 5 exact J);exact a1;(with_reducible exact J);omega)|(apply Aw;exact J;exact Bp rfl c1 rfl)|(apply Aw;exact J;first|exact Bp rfl (by assumption) rfl|exact By rfl (by assumption) rfl|exact Bv rfl (by assumption) rfl|exact Lv_roF3 rfl (by assumption) rfl));exact QA)|(apply Af;exact J;all_goals (intro hc;try simp only [hcS,reduceCtorEq] at hc;try (exfalso;omega))))
     all_goals first
      | (exfalso;omega)
      | contradiction
      | (refine Bm QS QT (h3))
 · rw [List.take_of_length_le (by omega)] at hI
   have hH : ¬ HeldI C num:=by
    rintro ⟨h0,_⟩
    rcases Zg (C:=C) (n:=num) with e|⟨f,hf,ho,_⟩
    · omega
    · have : num ∈ bs.map (·.num):=by rw [hfs.nums];exact (Ep C num).2 ⟨f,hf,ho⟩
      obtain ⟨x,hx,e⟩:=List.mem_map.1 this
      exact hI x hx e
   rw [decide_eq_false hH]
   clear ih
   repeat' (first|apply Ad|apply Aa|apply Ab|(apply Bi;exact J)|(apply Ac;(iterate 3 exact J))|(apply Af;exact J;all_goals (intro hc;try simp only [hcS,reduceCtorEq] at hc;try (exfalso;omega))))
   all_goals first
    | (exfalso;omega)
    | (exact Ca rfl rfl rfl rfl)
end Go.Hw
namespace Go.Hw
open Go
attribute [local irreducible] GO GOl GDp Val Fn Res CellsAt ValE Blk OwnS MapA OwnPf Has Yl SepA forceL idF voidL
open Go.Proofs (Tryz.prog)
def vF (C : List Fct) (n : Int) (rs : List (Fsh × Fct)) : List (Fsh × Fct):=rs.filter fun p => decide (standI C n p.2.ru.inst ≠ some p.2)
theorem vF_snoc (C : List Fct) (n : Int) (rs : List (Fsh × Fct)) (p : Fsh × Fct) : vF C n (rs ++ [p]) = if standI C n p.2.ru.inst ≠ some p.2 then vF C n rs ++ [p] else vF C n rs:=by
 unfold vF
 rw [List.filter_append]
 by_cases h : standI C n p.2.ru.inst ≠ some p.2 <;> simp [h]
def vFs (C : List Fct) (bs : List FileS) : List (Fsh × Fct):=bs.flatMap fun x => vF C x.num x.rs
theorem vFs_snoc (C : List Fct) (bs : List FileS) (x : FileS) : vFs C (bs ++ [x]) = vFs C bs ++ vF C x.num x.rs:=by unfold vFs;simp
theorem vFs_all {h : Ro} {C : List Fct} {bs : List FileS} (a : FilesAt h C bs) : fcs (vFs C bs) = voidBy7 C:=by
 unfold vFs voidBy7 fcs
 rw [← a.nums,List.map_flatMap,List.flatMap_map]
 have e : ∀ x ∈ bs,(vF C x.num x.rs).map (·.2) = (C.filter fun f => decide (OfCase x.num f)).filter fun f => decide (standI C x.num f.ru.inst ≠ some f):=fun x hx => by
  rw [← a.rs x hx]
  unfold vF fcs
  rw [List.filter_map];rfl
 clear a
 induction bs with
 | nil => rfl
 | cons y r ih =>
   rw [List.flatMap_cons,List.flatMap_cons,e y List.mem_cons_self,ih fun x hx => e x (List.mem_cons_of_mem _ hx)]
theorem sum_take (bs : List FileS) (k : Nat) : ((bs.take k).map fun x => x.rs.length).sum ≤ (bs.map fun x => x.rs.length).sum:=by
 conv => rhs;rw [← List.take_append_drop k bs,List.map_append,List.sum_append]
 exact Nat.le_add_right _ _
theorem vFs_good {h : Ro} {C : List Fct} {bs : List FileS} (a : FilesAt h C bs) : ∀ p ∈ vFs C bs,FGd h p:=fun p hp => by
 unfold vFs at hp
 obtain ⟨x,hx,h1⟩:=List.mem_flatMap.1 hp
 exact (a.at_ x hx).good p (List.mem_filter.1 h1).1
theorem vFs_0 (C : List Fct) : vFs C [] = []:=rfl
theorem vF_0 (C : List Fct) (n : Int) : vF C n [] = []:=rfl
theorem Wl (C : List Fct) : ∀ bs : List FileS,(vFs C bs).length ≤ (bs.map fun x => x.rs.length).sum
 | [] => Nat.le_refl _
 | x :: r => by
   unfold vFs
   rw [List.flatMap_cons,List.length_append,List.map_cons,List.sum_cons]
   have h1:=Wl C r
   unfold vFs at h1
   have h2 : (vF C x.num x.rs).length ≤ x.rs.length:=List.length_filter_le _ _
   omega
theorem vF_len (C : List Fct) (n : Int) (rs : List (Fsh × Fct)) : (vF C n rs).length ≤ rs.length:=List.length_filter_le _ _
theorem Void_c (h : Ro) (hG : PowG h) (A : Option Addr) (n c : Nat) (l : List (Fsh × Fct)) (hx : FactsAt h A n l) (hn6 : n ≤ 65536) : Res Tryz.prog 17 #[.slice A n c] h (fun u h' => ∃ A' c' ds,u = .tuple #[.slice A' ds.length c',.int .i64 0] ∧ SlOf voidC 32 h' A' ds.length ds ∧ ds = (voidL (canonL (fcs l))).map idF ∧ ds.length ≤ 1000000):=by
 refine Bn (args:=[_]) ts_ok Go.Proofs.Tryz.func17 rfl rfl fun w0 X0 => ?_
 obtain ⟨C,hC⟩ : ∃ C,C = canonL (fcs l):=⟨_,rfl⟩
 have hfi:=fun h' (hl : Le h h') => Xh h' (hG.le hl) A n c l (hx.le hl)
 have h32 : In32 (fcs l):=fun f hf => by
  obtain ⟨p,hp,rfl⟩:=List.mem_map.1 hf
  exact (hx.fat p hp).1.void
 have hspec:=Ck (fcs l) h32
 rw [← hC] at hfi hspec ⊢
 have hvc : canonL (voidBy7 C) = voidL C:=A4a hspec.1 (fun f hf => ((hspec.2 f).1 hf).2) (fun f hf => h32 f ((hspec.2 f).1 hf).1)
 clear hspec hx
 repeat' (first|apply Ad|apply Ap|apply Ag|apply Aa|apply Ab|(apply Ac;(iterate 3 exact J))|(apply Aj;(iterate 3 exact J);(first|(apply Bf;exact J;exact has52;exact hfi _ QL;rintro w1 h1 hle1 ⟨A3,c3,bs,rfl,hsl,hfs⟩;skip)))|(apply Af;exact J;all_goals (intro hc;try simp only [hcS,reduceCtorEq] at hc;try (exfalso;omega))))
 all_goals (try (exfalso;omega))
 have hsm:=hfs.small
 have hsum:=hfs.sum
 refine Do 54 82 ?_
 refine Bh (X:=Nat × List (Fsh × Fct) × Option Addr × Nat × Ro) (fun x => x.1 ≤ bs.length ∧ Le h1 x.2.2.2.2 ∧ x.2.1 = vFs C (bs.take x.1)) (fun x => bs.length - x.1)
  (fun x => [(21,.int .i64 x.1),(20,.int .i64 bs.length),(19,.slice A3 bs.length c3),(4,.slice x.2.2.1 x.2.1.length x.2.2.2.1),(2,.slice none 0 0)])
  (fun x => [OwnS 54 82 (.slice x.2.2.1 x.2.1.length x.2.2.2.1) x.2.1.length (x.2.1.flatMap encF82)]) (fun x => x.2.2.2.2) (0,[],none,0,h1) ⟨by dsimp only;omega,Le.refl _,by rw [List.take_zero,vFs_0]⟩ QS QT rfl ?_
 rintro ⟨k,out,A4,c4,hh⟩ ⟨hk,hle,ho⟩ ih
 dsimp only at hk hle ho ih ⊢
 by_cases hkn : k < bs.length
 · have a1:=hsl.addrD hkn
   have c1:=(hsl.cellsD default hkn).le hle
   have et:=Cq default (xs:=bs) rfl hkn
   have hmem : bs.getD k default ∈ bs:=Dt default hkn
   have hst1:=sum_take bs (k + 1)
   generalize bs.getD k default = x at *
   have hxa:=(hfs.at_ x hmem).le hle
   have hxc:=hxa.cells
   have hol : out.length + x.rs.length ≤ 1000000:=by
    rw [et,List.map_append,List.sum_append] at hst1
    simp only [List.map_cons,List.map_nil,List.sum_cons,List.sum_nil] at hst1
    have:=Wl C (bs.take k)
    rw [← ho] at this
    omega
   repeat' (first|apply Ad|apply Ap|apply Ag|apply Aa|apply Ab|(apply Ac;(iterate 3 exact J))|(apply Bc;exact J;exact J;(first|(apply Bb (j:=k);(iterate 5 exact J);exact a1;(with_reducible exact J);omega)|(apply Aw;exact J;exact Bp rfl c1 rfl)|(apply Aw;exact J;first|exact Bp rfl (by assumption) rfl|exact By rfl (by assumption) rfl|exact Bv rfl (by assumption) rfl|exact Lv_roF3 rfl (by assumption) rfl));exact QA)|(apply Af;exact J;all_goals (intro hc;try simp only [hcS,reduceCtorEq] at hc;try (exfalso;omega))))
   all_goals (try (exfalso;omega))
   refine Bh (X:=Nat × List (Fsh × Fct) × Option Addr × Nat × Ro) (fun y => y.1 ≤ x.rs.length ∧ Le hh y.2.2.2.2 ∧ y.2.1 = out ++ vF C x.num (x.rs.take y.1)) (fun y => x.rs.length - y.1)
    (fun y => [(30,.int .i64 y.1),(29,.int .i64 x.rs.length),(28,.slice x.A x.rs.length x.c),(6,fileP x),(21,.int .i64 k),(20,.int .i64 bs.length),(19,.slice A3 bs.length c3),(4,.slice y.2.2.1 y.2.1.length y.2.2.2.1),(2,.slice none 0 0)])
    (fun y => [OwnS 54 82 (.slice y.2.2.1 y.2.1.length y.2.2.2.1) y.2.1.length (y.2.1.flatMap encF82)]) (fun y => y.2.2.2.2) (0,out,A4,c4,hh) ⟨by dsimp only;omega,Le.refl _,by rw [List.take_zero,vF_0,List.append_nil]⟩ QS QT rfl ?_
   rintro ⟨i,ou,A5,c5,h2⟩ ⟨hi,hle2,ho2⟩ ih2
   dsimp only at hi hle2 ho2 ih2 ⊢
   by_cases hin : i < x.rs.length
   · have a2:=hxa.row.addrD hin
     have c2:=(hxa.row.cellsD p0 hin).le hle2
     have et2:=Cq p0 (xs:=x.rs) rfl hin
     have hpm:=mem7 p0 hin
     have hpg:=(hxa.good _ hpm).le hle2
     generalize x.rs.getD i p0 = p at *
     have hst:=Mw h2 x (hxa.le hle2) p.2.ru.inst
     have hsr:=hfs.stand hmem p.2.ru.inst
     have hsn:=vF_snoc C x.num (x.rs.take i) p
     rw [← et2] at hsn
     have houl : ou.length ≤ out.length + i:=by
      rw [ho2,List.length_append]
      have:=vF_len C x.num (x.rs.take i)
      rw [List.length_take] at this
      omega
     cases hsq : standR x.rs p.2.ru.inst with
     | none =>
       exfalso
       have:=List.find?_eq_none.1 hsq p hpm
       simp at this
     | some s =>
       rw [hsq] at hst hsr
       have hsg:=(hxa.good s (Pj hsq)).le hle2
       have hst2 : Val Tryz.prog 53 #[fileP x,.int .i64 p.2.ru.inst] h2 (.tuple #[factV s.1 s.2,.bool true]):=hst
       have hsm7:=same7_c h2 s.1 s.2 hsg.1 hsg.2.1 p.1 p.2 hpg.1 hpg.2.1
       have hsr2 : standI C x.num p.2.ru.inst = some s.2:=hsr.symm
       rw [hsr2] at hsn
       by_cases hq : s.2 = p.2
       · rw [decide_eq_true hq] at hsm7
         rw [if_neg (by rw [hq];simp)] at hsn
         have h3:=ih2 (i + 1,ou,A5,c5,h2) ⟨by dsimp only;omega,hle2,by dsimp only;rw [hsn];exact ho2⟩ (by dsimp only;omega)
         dsimp only at h3
         repeat' (first|apply Ad|apply Ap|apply Ah|apply Ag|apply Aa|apply Ab|(apply Be;(iterate 3 exact J);omega;exact J;exact J)|(apply Ac;(iterate 3 exact J))|(apply Aq;exact J;exact Bd rfl QM rfl;exact J;exact J)|(apply Bc;exact J;exact J;(first|(apply Bb (j:=i);(iterate 5 exact J);exact a2;(with_reducible exact J);omega)|(apply Aw;exact J;exact Bp rfl c2 rfl));exact QA)|(apply Aj;(iterate 3 exact J);(first|(apply Ao;(iterate 3 exact J);exact QR;(iterate 3 exact J);skip)|(apply At;exact J;intro b;skip)|(apply Ai;exact J;exact has53;exact hst2;skip)|(apply Ai;exact J;exact has54;exact hsm7;skip)))|(apply Af;exact J;all_goals (intro hc;try simp only [hcS,reduceCtorEq] at hc;try (exfalso;omega))))
         all_goals first
          | (exfalso;omega)
          | (refine Bm QS QT (h3))
       · rw [decide_eq_false hq] at hsm7
         rw [if_pos (by intro w;exact hq (Option.some.inj w))] at hsn
         repeat' (first|apply Ad|apply Ap|apply Ah|apply Ag|apply Aa|apply Ab|(apply Be;(iterate 3 exact J);omega;exact J;exact J)|(apply Ac;(iterate 3 exact J))|(apply Aq;exact J;exact Bd rfl QM rfl;exact J;exact J)|(apply Bc;exact J;exact J;(first|(apply Bb (j:=i);(iterate 5 exact J);exact a2;(with_reducible exact J);omega)|(apply Aw;exact J;exact Bp rfl c2 rfl));exact QA)|(apply Aj;(iterate 3 exact J);(first|(apply Ao;(iterate 3 exact J);exact QR;(iterate 3 exact J);skip)|(apply At;exact J;intro b;skip)|(apply Ai;exact J;exact has53;exact hst2;skip)|(apply Ai;exact J;exact has54;exact hsm7;skip)|(apply Ar (enc:=encF82) (n:=1) [p];(iterate 3 exact J);exact List.cons_ne_nil _ _;(iterate 4 exact J);exact Bl;exact J;exact J;intro b5 h5 hle5 hs5;skip)|(apply Bo (enc:=encF82) (xs:=ou);(iterate 7 exact J);exact hs5;exact Bl;exact Fe;intro v1;exact QR;omega;exact J;intro A6 c6;skip)))|(apply Af;exact J;all_goals (intro hc;try simp only [hcS,reduceCtorEq] at hc;try (exfalso;omega))))
         all_goals first
          | (exfalso;omega)
          | (have h3:=ih2 (i + 1,ou ++ [p],A6,c6,h5) ⟨by dsimp only;omega,hle2.trans hle5,by dsimp only;rw [hsn,ho2,List.append_assoc]⟩ (by dsimp only;omega)
             dsimp only at h3
             rw [List.length_append] at h3
             refine Bm QS QT (h3))
   · rw [List.take_of_length_le (by omega)] at ho2
     clear ih2
     have h3:=ih (k + 1,ou,A5,c5,h2) ⟨by dsimp only;omega,hle.trans hle2,by dsimp only;rw [et,vFs_snoc,← ho];exact ho2⟩ (by dsimp only;omega)
     dsimp only at h3
     repeat' (first|apply Ad|apply Ah|apply Aa|apply Ab|(apply Bi;exact J)|(apply Be;(iterate 3 exact J);omega;exact J;exact J)|(apply Ac;(iterate 3 exact J))|(apply Af;exact J;all_goals (intro hc;try simp only [hcS,reduceCtorEq] at hc;try (exfalso;omega))))
     all_goals first
      | (exfalso;omega)
      | (refine Bm QS QT (h3))
 · rw [List.take_of_length_le (by omega)] at ho
   clear ih
   have hol : out.length ≤ 1000000:=by
    rw [ho];exact Nat.le_trans (Wl C bs) hsum
   have hgd : ∀ p ∈ out,FGd h1 p:=by rw [ho];exact vFs_good hfs
   have hcv : canonL (fcs out) = voidL C:=by rw [ho,vFs_all hfs,hvc]
   clear ho hvc hsl hfs hC hfi
   refine Dw (enc:=encF82) (e:=54) (sz:=82) (n:=out.length) (xs:=out) Bl rfl QK ?_
   intro A7 c7 h7 hle7 e7 hnc7 hs7
   cases e7
   have hle17 : Le h1 h7:=hle.trans hle7
   repeat' (first|apply Ad|apply Ag|apply Aa|apply Ab|(apply Bi;exact J)|(apply Ac;(iterate 3 exact J))|(apply Aj;(iterate 3 exact J);(first|(apply Bt;exact J;exact has55;exact Tt _ (hG.le QL) _ out.length _ out (hs7.le QL) hol (fun p hp => (hgd p hp).le QL);exact QT;rintro vs Es9 h9 hle9 ⟨A9,c9,zs,rfl,hzc,hzs,hzn,rfl⟩;skip)))|(apply Af;exact J;all_goals (intro hc;try simp only [hcS,reduceCtorEq] at hc;try (exfalso;omega))))
   refine Dw (enc:=encF82) (e:=54) (sz:=82) (n:=zs.length) (xs:=zs) Bl rfl QK ?_
   intro A8 c8 h8 hle8 e8 hnc8 hs8
   cases e8
   have hzg : ∀ p ∈ zs,FGd h8 p:=fun p hp => (hgd p (hzs p hp)).le ((hle17.trans hle9).trans hle8)
   have hle88 : Le h h8:=QL
   rw [hcv] at hzc
   refine Do 52 32 ?_
   refine Bh (X:=Nat × List (List UInt8) × Option Addr × Nat × Ro) (fun x => x.1 ≤ zs.length ∧ Le h8 x.2.2.2.2 ∧ x.2.1 = (fcs (zs.take x.1)).map idF) (fun x => zs.length - x.1)
    (fun x => [(55,.int .i64 x.1),(54,.int .i64 zs.length),(53,.slice A9 zs.length c9),(2,.slice x.2.2.1 x.2.1.length x.2.2.2.1)])
    (fun x => [OwnS 52 32 (.slice x.2.2.1 x.2.1.length x.2.2.2.1) x.2.1.length (x.2.1.flatMap voidC)]) (fun x => x.2.2.2.2) (0,[],none,0,h8) ⟨by dsimp only;omega,Le.refl _,rfl⟩ QS QT rfl ?_
   rintro ⟨i,dd,A5,c5,h2⟩ ⟨hi,hle2,hdd⟩ ih2
   dsimp only at hi hle2 hdd ih2 ⊢
   have hddl : dd.length ≤ i:=by rw [hdd,List.length_map,List.length_map,List.length_take];omega
   by_cases hin : i < zs.length
   · have a2:=hs8.addrD hin
     have c2:=(hs8.cellsD p0 hin).le hle2
     have et2:=Cq p0 (xs:=zs) rfl hin
     have hpg:=(hzg _ (mem7 p0 hin)).le hle2
     generalize zs.getD i p0 = p at *
     have hid : ∀ h',Le h2 h' → Res Tryz.prog 51 #[factV p.1 p.2] h' fun u _ => u = .tuple #[digV (idF p.2),.int .i64 0]:=fun h' hl => id2_c h' (hG.le ((hle88.trans hle2).trans hl)) p.1 p.2 (hpg.le hl).1 hpg.2.1 hpg.2.2
     repeat' (first|apply Ad|apply Ap|apply Ah|apply Ag|apply Aa|apply Ab|(apply Be;(iterate 3 exact J);omega;exact J;exact J)|(apply Ac;(iterate 3 exact J))|(apply Aq;exact J;exact Bd rfl QM rfl;exact J;exact J)|(apply Bc;exact J;exact J;(first|(apply Bb (j:=i);(iterate 5 exact J);exact a2;(with_reducible exact J);omega)|(apply Aw;exact J;exact Bp rfl c2 rfl));exact QA)|(apply Aj;(iterate 3 exact J);(first|(apply Ao;(iterate 3 exact J);exact QR;(iterate 3 exact J);skip)|(apply At;exact J;intro b;skip)|(apply Bf;exact J;exact has51;exact hid _ QL;rintro vi hi1 hle3 rfl;skip)|(apply Ar (enc:=voidC) (n:=1) [idF p.2];(iterate 3 exact J);exact List.cons_ne_nil _ _;(iterate 4 exact J);exact Gn;exact J;exact J;intro b5 h5 hle5 hs5;skip)|(apply Bo (enc:=voidC) (xs:=dd);(iterate 7 exact J);exact hs5;exact Gn;exact Th;intro v1;exact QR;omega;exact J;intro A6 c6;skip)))|(apply Af;exact J;all_goals (intro hc;try simp only [hcS,reduceCtorEq] at hc;try (exfalso;omega))))
     all_goals first
      | (exfalso;omega)
      | (have h3:=ih2 (i + 1,dd ++ [idF p.2],A6,c6,h5) ⟨by dsimp only;omega,(hle2.trans hle3).trans hle5,by dsimp only;rw [et2,hdd];simp [fcs]⟩ (by dsimp only;omega)
         dsimp only at h3
         rw [List.length_append] at h3
         refine Bm QS QT (h3))
   · rw [List.take_of_length_le (by omega),hzc] at hdd
     clear ih2
     refine Dw (enc:=voidC) (e:=52) (sz:=32) (n:=dd.length) (xs:=dd) Gn rfl QK ?_
     intro A6 c6 h6 hle6 e6 hnc6 hs6
     cases e6
     repeat' (first|apply Ad|apply Aa|apply Ab|(apply Bi;exact J)|(apply Ac;(iterate 3 exact J))|(apply Af;exact J;all_goals (intro hc;try simp only [hcS,reduceCtorEq] at hc;try (exfalso;omega))))
     all_goals first
      | (exfalso;omega)
      | (exact Fh rfl rfl rfl rfl ⟨A5,c5,dd,rfl,hs6,hdd,by omega⟩)
end Go.Hw

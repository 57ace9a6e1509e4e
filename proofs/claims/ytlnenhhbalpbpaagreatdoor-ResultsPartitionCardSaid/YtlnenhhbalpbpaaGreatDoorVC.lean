import Derived.Test.YtlnenhhbalpbpaaGreatDoorVB
import Derived.Test.YtlnenhhbalpbpaaGreatDoorFC
set_option linter.unusedVariables false
set_option linter.unusedSimpArgs false
set_option maxRecDepth 100000
set_option maxHeartbeats 8000000
namespace Go.Hw
open Go
attribute [local irreducible] GO GOl GDp Val Fn Res CellsAt ValE Blk OwnS MapA OwnPf Has Yl SepA forceL
open Go.Proofs (Tryz.prog)
theorem lastR_of {rs : List (Fsh × Fct)} {C : List Fct} {n : Int} (e : fcs rs = C.filter fun f => decide (OfCase n f)) : lastR rs = lastI C n:=by
  have h1 : lastR rs = (fcs rs).foldl (fun m f => max m f.ru.inst) 0:=by unfold lastR fcs;rw [List.foldl_map]
  rw [h1,e,List.foldl_filter]
  unfold lastI
  congr 1
  funext m f
  by_cases h : OfCase n f <;> simp [h]
theorem standR_of {rs : List (Fsh × Fct)} {C : List Fct} {n : Int} (e : fcs rs = C.filter fun f => decide (OfCase n f)) (i : Int) : (standR rs i).map (·.2) = standI C n i:=by
  have h1 : (standR rs i).map (·.2) = (fcs rs).find? fun f => decide (f.ru.inst = i):=by unfold standR fcs;rw [List.find?_map];rfl
  rw [h1,e,List.find?_filter]
  unfold standI
  congr 1
  funext f
  simp
theorem FilesAt.has {h : Ro} {C : List Fct} {bs : List FileS} (a : FilesAt h C bs) {x : FileS} (hx : x ∈ bs) : ∃ f ∈ C,OfCase x.num f:=(casesL_mem C x.num).1 (a.nums ▸ List.mem_map_of_mem hx)
theorem FilesAt.last {h : Ro} {C : List Fct} {bs : List FileS} (a : FilesAt h C bs) {x : FileS} (hx : x ∈ bs) : ∃ j : Nat,lastR x.rs = (j : Int) ∧ lastI C x.num = (j : Int) ∧ 1 ≤ j ∧ j < 4:=by
  have e:=lastR_of (a.rs x hx)
  obtain ⟨h0,f,hf⟩:=stand_last a.ok (a.has hx)
  obtain ⟨h1,h2,h3⟩:=standI_some hf
  have:=fct_inst (a.ok f h1) h2.1
  exact ⟨(lastI C x.num).toNat,by omega,by omega,by omega,by omega⟩
theorem FilesAt.held {h : Ro} {C : List Fct} {bs : List FileS} (a : FilesAt h C bs) {x : FileS} (hx : x ∈ bs) {j : Nat} (hj : lastI C x.num = (j : Int)) (h1 : 1 ≤ j) (h4 : j < 4) : x.s.getD j false = decide (HeldI C x.num):=by
  rw [Bool.eq_iff_iff,decide_eq_true_eq,a.sus x hx j h4]
  unfold SuspIn HeldI
  rw [hj]
  exact ⟨fun h => ⟨by omega,h⟩,fun h => h.2⟩
theorem FilesAt.stand {h : Ro} {C : List Fct} {bs : List FileS} (a : FilesAt h C bs) {x : FileS} (hx : x ∈ bs) (i : Int) : (standR x.rs i).map (·.2) = standI C x.num i:=standR_of (a.rs x hx) i
theorem standR_mem {rs : List (Fsh × Fct)} {i : Int} {p : Fsh × Fct} (h : standR rs i = some p) : p ∈ rs:=List.mem_of_find?_eq_some h
def forceN (C : List Fct) (ns : List Int) : List Fct:=ns.filterMap fun n => if HeldI C n then none else standI C n (lastI C n)
open Classical in
theorem forceN_all (C : List Fct) : forceN C (casesL C) = forceL C:=by
  unfold forceN forceL
  congr 1
  funext n
  by_cases h : HeldI C n
  · rw [if_pos h,if_pos h]
  · rw [if_neg h,if_neg h]
theorem forceN_snoc (C : List Fct) (ns : List Int) (n : Int) : forceN C (ns ++ [n]) = forceN C ns ++ (if HeldI C n then none else standI C n (lastI C n)).toList:=by
  unfold forceN
  rw [List.filterMap_append,List.filterMap_cons,List.filterMap_nil]
  cases h : (if HeldI C n then none else standI C n (lastI C n)) <;> rfl
theorem forceN_len (C : List Fct) (ns : List Int) : (forceN C ns).length ≤ ns.length:=List.length_filterMap_le _ _
theorem inForce_c (h : Ro) (hG : PowG h) (A : Option Addr) (n c : Nat) (l : List (Fsh × Fct)) (hx : FactsAt h A n l) : Fn Tryz.prog 38 #[.slice A n c] [] h (fun u Es h' => ∃ A' c' l',u = .slice A' l'.length c' ∧ Es = [OwnS 57 82 (.slice A' l'.length c') l'.length (l'.flatMap encF82)] ∧ (∀ p ∈ l',FGd h' p) ∧ fcs l' = forceL (canonL (fcs l)) ∧ l'.length ≤ 1000000):=by
  refine Fn_intro (args:=[_]) ts_ok Go.Proofs.Tryz.func38 rfl rfl fun w0 X0 => ?_
  obtain ⟨C,hC⟩ : ∃ C,C = canonL (fcs l):=⟨_,rfl⟩
  have hfi:=fun h' (hl : Le h h') => files_c h' (hG.le hl) A n c l (hx.le hl)
  rw [← hC] at hfi ⊢
  repeat' (first|apply GO_seq|apply GO_block|apply GO_region|apply GOl_nil|(apply GOl_pv;(iterate 3 exact rfl))|(apply GOl_to;(iterate 3 exact rfl);(first|(apply OpTo_res;exact rfl;exact has77;exact hfi _ (by first|exact Le.refl _|assumption|(repeat (first|assumption|(apply Le.trans;assumption))));rintro w1 h1 hle1 ⟨A3,c3,bs,rfl,hsl,hfs⟩;skip))))
  have hsm:=hfs.small
  refine GO_nilS 57 82 ?_
  refine GO_loopT (X:=Nat × List (Fsh × Fct) × Option Addr × Nat × Ro) (fun x => x.1 ≤ bs.length ∧ Le h1 x.2.2.2.2 ∧ (∀ p ∈ x.2.1,FGd h1 p) ∧ fcs x.2.1 = forceN C ((bs.take x.1).map (·.num))) (fun x => bs.length - x.1)
    (fun x => [(12,.int .i64 x.1),(11,.int .i64 bs.length),(10,.slice A3 bs.length c3),(2,.slice x.2.2.1 x.2.1.length x.2.2.2.1)])
    (fun x => [OwnS 57 82 (.slice x.2.2.1 x.2.1.length x.2.2.2.1) x.2.1.length (x.2.1.flatMap encF82)]) (fun x => x.2.2.2.2) (0,[],none,0,h1) ⟨by dsimp only;omega,Le.refl _,by simp,rfl⟩ QS QT rfl ?_
  rintro ⟨k,out,A4,c4,hh⟩ ⟨hk,hle,hgd,ho⟩ ih
  dsimp only at hk hle hgd ho ih ⊢
  have hol : out.length ≤ k:=by
    have q:=congrArg List.length ho
    have q2:=forceN_len C ((bs.take k).map (·.num))
    rw [List.length_map] at q
    rw [List.length_map,List.length_take] at q2
    omega
  by_cases hkn : k < bs.length
  · have a1:=hsl.addrD hkn
    have c1:=(hsl.cellsD default hkn).le hle
    have et:=take7 default (xs:=bs) rfl hkn
    have hmem : bs.getD k default ∈ bs:=getD_mem default hkn
    generalize bs.getD k default = x at *
    obtain ⟨j,hj1,hj2,hj3,hj4⟩:=hfs.last hmem
    have hxa:=(hfs.at_ x hmem).le hle
    have hhe:=heldF_c hh x hxa hj1 hj4
    rw [hfs.held hmem hj2 hj3 hj4] at hhe
    have hla:=lastF_c hh x hxa
    rw [hj1] at hla
    have hst:=standingF_c hh x hxa (j : Int)
    have hsr:=hfs.stand hmem (j : Int)
    have e0 : forceN C ((bs.take (k + 1)).map (·.num)) = fcs out ++ (if HeldI C x.num then none else standI C x.num (j : Int)).toList:=by rw [et,List.map_append,ho];show forceN C (_ ++ [x.num]) = _;rw [forceN_snoc,hj2]
    by_cases hH : HeldI C x.num
    · rw [decide_eq_true hH] at hhe
      rw [if_pos hH] at e0
      repeat' (first|apply GO_seq|apply GO_skip|apply GO_block|apply GO_region|apply GOl_nil|(apply GO_exit;exact rfl)|(apply GOl_add;(iterate 3 exact rfl);omega;exact rfl;exact rfl)|(apply GOl_pv;(iterate 3 exact rfl))|(apply GOl_ov;exact rfl;exact rfl;(first|(apply OV_idxS (j:=k);(iterate 5 exact rfl);exact a1;(with_reducible exact rfl);omega)|(apply OV_load;exact rfl;exact Lv_ro rfl c1 rfl));exact QA)|(apply GOl_to;(iterate 3 exact rfl);(first|(apply OpTo_valF (f:=78) (fs:=[fileP x]) (cs:=[]);exact rfl;exact rfl;exact has78;exact hhe;skip)))|(apply GO_cond;exact rfl;all_goals (intro hc;try simp only [hcS,reduceCtorEq] at hc;try (exfalso;omega))))
      all_goals first
        | (exfalso;omega)
        | (have h3:=ih (k + 1,out,A4,c4,hh) ⟨by dsimp only;omega,hle,hgd,by dsimp only;rw [e0];simp⟩ (by dsimp only;omega)
           dsimp only at h3
           refine GO_fit QS QT (h3))
    · rw [decide_eq_false hH] at hhe
      rw [if_neg hH] at e0
      obtain ⟨_,f9,hf9⟩:=stand_last hfs.ok (hfs.has hmem)
      rw [hj2] at hf9
      rw [hf9] at e0 hsr
      obtain ⟨p,hp,hpf⟩:=Option.map_eq_some_iff.1 hsr
      rw [hp] at hst
      have hpg : FGd h1 p:=((hfs.at_ x hmem)).good p (standR_mem hp)
      have hst2 : Val Tryz.prog 79 #[fileP x,.int .i64 j] hh (.tuple #[factV p.1 p.2,.bool true]):=hst
      repeat' (first|apply GO_seq|apply GO_skip|apply GO_inBlock|apply GO_block|apply GO_region|apply GOl_nil|(apply GOl_add;(iterate 3 exact rfl);omega;exact rfl;exact rfl)|(apply GOl_pv;(iterate 3 exact rfl))|(apply GOl_load;exact rfl;exact Ld_blk rfl QM rfl;exact rfl;exact rfl)|(apply GOl_ov;exact rfl;exact rfl;(first|(apply OV_idxS (j:=k);(iterate 5 exact rfl);exact a1;(with_reducible exact rfl);omega)|(apply OV_load;exact rfl;exact Lv_ro rfl c1 rfl));exact QA)|(apply GOl_to;(iterate 3 exact rfl);(first|(apply OpTo_store;(iterate 3 exact rfl);exact QR;(iterate 3 exact rfl);skip)|(apply OpTo_alloc;exact rfl;intro b;skip)|(apply OpTo_valF (f:=78) (fs:=[fileP x]) (cs:=[]);exact rfl;exact rfl;exact has78;exact hhe;skip)|(apply OpTo_val;exact rfl;exact has80;exact hla;skip)|(apply OpTo_valF (f:=79) (fs:=[fileP x]) (cs:=[]);exact rfl;exact rfl;exact has79;exact hst2;skip)|(apply OpTo_buildSliceS (enc:=encF82) (n:=1) [p];(iterate 3 exact rfl);exact List.cons_ne_nil _ _;(iterate 4 exact rfl);exact encF82_len;exact rfl;exact rfl;intro b5 h5 hle5 hs5;skip)|(apply OpTo_appendS (enc:=encF82) (xs:=out);(iterate 7 exact rfl);exact hs5;exact encF82_len;exact encF82_one;intro v1;exact QR;omega;exact rfl;intro A5 c5;skip)))|(apply GO_cond;exact rfl;all_goals (intro hc;try simp only [hcS,reduceCtorEq] at hc;try (exfalso;omega))))
      all_goals first
        | (exfalso;omega)
        | (have h3:=ih (k + 1,out ++ [p],A5,c5,h5) ⟨by dsimp only;omega,hle.trans hle5,fun q hq => by
             rcases List.mem_append.1 hq with w|w
             · exact hgd q w
             · rw [List.mem_singleton] at w;subst w;exact hpg,by dsimp only;rw [e0];show fcs (out ++ [p]) = _;simp [fcs,hpf]⟩ (by dsimp only;omega)
           dsimp only at h3
           rw [List.length_append] at h3
           refine GO_fit QS QT (h3))
  · rw [List.take_of_length_le (by omega),hfs.nums,forceN_all] at ho
    clear ih
    repeat' (first|apply GO_seq|apply GO_region|apply GOl_nil|(apply GO_exit;exact rfl)|(apply GOl_pv;(iterate 3 exact rfl))|(apply GO_cond;exact rfl;all_goals (intro hc;try simp only [hcS,reduceCtorEq] at hc;try (exfalso;omega))))
    all_goals first
      | (exfalso;omega)
      | (exact GO_retS1 rfl rfl rfl (.cons_cons _ (List.nil_sublist _)) ⟨A4,c4,out,rfl,rfl,fun p hp => (hgd p hp).le hle,ho,by omega⟩)
theorem InForce_c (h : Ro) (hG : PowG h) (A : Option Addr) (n c : Nat) (l : List (Fsh × Fct)) (hx : FactsAt h A n l) : Res Tryz.prog 93 #[.slice A n c] h (fun u h' => ∃ A' c' rl,u = .slice A' rl.length c' ∧ SlOf rulC 17 h' A' rl.length rl ∧ rl = (forceL (canonL (fcs l))).map (·.ru) ∧ rl.length ≤ 1000000):=by
  refine Res_intro (args:=[_]) ts_ok Go.Proofs.Tryz.func93 rfl rfl fun w0 X0 => ?_
  obtain ⟨L,hL⟩ : ∃ L,L = forceL (canonL (fcs l)):=⟨_,rfl⟩
  have hfi:=fun h' (hl : Le h h') => inForce_c h' (hG.le hl) A n c l (hx.le hl)
  rw [← hL] at hfi ⊢
  repeat' (first|apply GO_seq|apply GO_block|apply GO_region|apply GOl_nil|(apply GOl_pv;(iterate 3 exact rfl))|(apply GOl_to;(iterate 3 exact rfl);(first|(apply OpTo_callP;exact rfl;exact has38;exact hfi _ (by first|exact Le.refl _|assumption|(repeat (first|assumption|(apply Le.trans;assumption))));exact QT;rintro w1 Ec h1 hle1 ⟨A3,c3,l3,rfl,rfl,hg3,hf3,hn3⟩;skip))))
  have hle1 : Le h h1:=(by first|exact Le.refl _|assumption|(repeat (first|assumption|(apply Le.trans;assumption))))
  refine GO_relC (enc:=encF82) (e:=57) (sz:=82) (n:=l3.length) (xs:=l3) encF82_len rfl QK ?_
  intro A8 c8 h9 hle9 e9 hnc9 hs9
  cases e9
  refine GO_nilS 39 17 ?_
  refine GO_loopT (X:=Nat × List FRul × Option Addr × Nat × Ro) (fun x => x.1 ≤ l3.length ∧ Le h9 x.2.2.2.2 ∧ x.2.1 = (fcs (l3.take x.1)).map (·.ru)) (fun x => l3.length - x.1)
    (fun x => [(8,.int .i64 x.1),(7,.int .i64 l3.length),(6,.slice A3 l3.length c3),(2,.slice x.2.2.1 x.2.1.length x.2.2.2.1)])
    (fun x => [OwnS 39 17 (.slice x.2.2.1 x.2.1.length x.2.2.2.1) x.2.1.length (x.2.1.flatMap rulC)]) (fun x => x.2.2.2.2) (0,[],none,0,h9) ⟨by dsimp only;omega,Le.refl _,rfl⟩ QS QT rfl ?_
  rintro ⟨k,out,A4,c4,hh⟩ ⟨hk,hle,ho⟩ ih
  dsimp only at hk hle ho ih ⊢
  have hol : out.length ≤ k:=by
    rw [ho,List.length_map,List.length_map,List.length_take];omega
  by_cases hkn : k < l3.length
  · have a1:=hs9.addrD hkn
    have c1:=(hs9.cellsD p0 hkn).le hle
    have et:=take7 p0 (xs:=l3) rfl hkn
    generalize l3.getD k p0 = p at *
    repeat' (first|apply GO_seq|apply GO_skip|apply GO_inBlock|apply GO_block|apply GO_region|apply GOl_nil|(apply GOl_add;(iterate 3 exact rfl);omega;exact rfl;exact rfl)|(apply GOl_pv;(iterate 3 exact rfl))|(apply GOl_load;exact rfl;exact Ld_blk rfl QM rfl;exact rfl;exact rfl)|(apply GOl_ov;exact rfl;exact rfl;(first|(apply OV_idxS (j:=k);(iterate 5 exact rfl);exact a1;(with_reducible exact rfl);omega)|(apply OV_load;exact rfl;exact Lv_ro rfl c1 rfl));exact QA)|(apply GOl_to;(iterate 3 exact rfl);(first|(apply OpTo_store;(iterate 3 exact rfl);exact QR;(iterate 3 exact rfl);skip)|(apply OpTo_alloc;exact rfl;intro b;skip)|(apply OpTo_buildSliceS (enc:=rulC) (n:=1) [p.2.ru];(iterate 3 exact rfl);exact List.cons_ne_nil _ _;(iterate 4 exact rfl);exact fun _ => rfl;exact rfl;exact rfl;intro b5 h5 hle5 hs5;skip)|(apply OpTo_appendS (enc:=rulC) (xs:=out);(iterate 7 exact rfl);exact hs5;exact fun _ => rfl;exact fun x => allOne_ok rfl;intro v1;exact QR;omega;exact rfl;intro A5 c5;skip)))|(apply GO_cond;exact rfl;all_goals (intro hc;try simp only [hcS,reduceCtorEq] at hc;try (exfalso;omega))))
    all_goals first
      | (exfalso;omega)
      | (have h3:=ih (k + 1,out ++ [p.2.ru],A5,c5,h5) ⟨by dsimp only;omega,hle.trans hle5,by dsimp only;rw [ho,et];simp [fcs]⟩ (by dsimp only;omega)
         dsimp only at h3
         rw [List.length_append] at h3
         refine GO_fit QS QT (h3))
  · rw [List.take_of_length_le (by omega),hf3] at ho
    clear ih
    refine GO_relC (enc:=rulC) (e:=39) (sz:=17) (n:=out.length) (xs:=out) (fun _ => rfl) rfl QK ?_
    intro A7 c7 h7 hle7 e7 hnc7 hs7
    cases e7
    repeat' (first|apply GO_seq|apply GO_region|apply GOl_nil|(apply GO_exit;exact rfl)|(apply GOl_pv;(iterate 3 exact rfl))|(apply GO_cond;exact rfl;all_goals (intro hc;try simp only [hcS,reduceCtorEq] at hc;try (exfalso;omega))))
    all_goals first
      | (exfalso;omega)
      | (exact GO_retR1 rfl rfl rfl ⟨A4,c4,out,rfl,hs7,ho,by omega⟩)
end Go.Hw

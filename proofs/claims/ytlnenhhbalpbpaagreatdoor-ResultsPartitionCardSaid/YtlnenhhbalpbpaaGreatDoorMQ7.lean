import Derived.Test.YtlnenhhbalpbpaaGreatDoorQA0
import Derived.Test.YtlnenhhbalpbpaaGreatDoorPA
import Derived.Test.YtlnenhhbalpbpaaGreatDoorPB
import Derived.Test.YtlnenhhbalpbpaaGreatDoorFH
set_option linter.unusedVariables false
set_option linter.unusedSimpArgs false
set_option maxRecDepth 100000
set_option maxHeartbeats 8000000
namespace Go.Hw
open Go
attribute [local irreducible] GO GOl GDp Val Fn Res CellsAt ValE Blk OwnS MapA OwnPf Has Yl SepA forceL decC memS suspC offL ofGame cardP ofF allC openL openE
open Go.Proofs (Tryz.prog)
theorem isO_self {L : List Fct} {s c h : Int} : ¬ isOpen L s c h h:=fun w => w.1 rfl
structure AllI (L : List Fct) (s co : Int) (AL : List FRes) : Prop where
  of : ∀ i,i < AL.length → ofF L (AL.getD i res0).g = some (AL.getD i res0)
  sc : ∀ i,i < AL.length → (AL.getD i res0).g.s = s ∧ (AL.getD i res0).g.c = co
  lt : ∀ i,i + 1 < AL.length → LtR (AL.getD i res0) (AL.getD (i + 1) res0)
theorem allI_of {L : List Fct} (h32 : In32 L) (s co : Int) : AllI L s co (allC L s co):=by
  have ha:=allC_is h32 s co
  have hm : ∀ i,i < (allC L s co).length → InAll L s co ((allC L s co).getD i res0):=fun i hi => (ha.2 _).1 (mem7 res0 hi)
  refine ⟨fun i hi => (hm i hi).2.2,fun i hi => ⟨(hm i hi).1,(hm i hi).2.1⟩,fun i hi => ?_⟩
  have:=List.pairwise_iff_getElem.1 ha.1 i (i + 1) (by omega) hi (by omega)
  rw [List.getD_eq_getElem?_getD,List.getD_eq_getElem?_getD,List.getElem?_eq_getElem (show i < _ by omega),List.getElem?_eq_getElem hi]
  exact this
theorem partition12_law (h : Ro) (hG : PowG h) (A : Option Addr) (n c : Nat) (l : List (Fsh × Fct)) (hx : LedIn h A n c l) (s co : Int) : Res Tryz.prog 7 #[.slice A n c,.int .i64 s,.int .i64 co] h (fun u _ => u = .bool true):=by
  refine Res_intro (args:=[_,_,_]) ts_ok Go.Proofs.Tryz.func7 rfl rfl fun w0 X0 => ?_
  have hfew:=fewF_c h A n c l hx.row hx.small 14
  have hsane:=sane12_c h hG
  by_cases hF : (∀ p ∈ l,SmallS p.1 p.2) ∧ (n : Int) ≤ 14
  case' neg =>
    rw [decide_eq_false hF] at hfew
    repeat' (first|apply GO_seq|apply GO_skip|apply GO_region|apply GOl_nil|(apply GOl_pv;(iterate 3 exact rfl))|(apply GOl_to;(iterate 3 exact rfl);(first|(apply OpTo_val;exact rfl;exact has8;exact hsane;skip)|(apply OpTo_val;exact rfl;exact has9;exact hfew;skip)))|(apply GO_cond;exact rfl;all_goals (intro hc;try simp only [hcS,reduceCtorEq] at hc;try (exfalso;omega))))
    all_goals first
      | (exact GO_retR1 rfl rfl rfl rfl)
      | (exfalso;simp at hc;done)
  rw [decide_eq_true hF] at hfew
  have hfa : FactsAt h A n l:=⟨hx.row,hx.fat,by have:=hF.2;omega⟩
  have hn6 : n ≤ 65536:=by have:=hF.2;omega
  have h32 : In32 (fcs l):=In32_factsX hfa
  have k1:=fun h' (hl : Le h h') => All_c h' (hG.le hl) A n c l (hfa.le hl) hn6 s co
  have k2:=fun h' (hl : Le h h') g => Of12_c h' (hG.le hl) A n c l (hfa.le hl) hn6 g
  have k3:=fun h' (hl : Le h h') => Open_c h' (hG.le hl) A n c l (hfa.le hl) hn6 s co
  have k4:=fun h' (hl : Le h h') => Entrants_c h' (hG.le hl) A n c l (hfa.le hl) s co
  have k5:=fun h' (hl : Le h h') e he => EntrantsS_c h' (hG.le hl) A n c l (hfa.le hl) s co (e:=e) he
  have k6:=fun h' (hl : Le h h') he => EntrantsN_c h' (hG.le hl) A n c l (hfa.le hl) s co he
  have hal:=allC_len h32 s co
  have hfl : (fcs l).length ≤ 14:=by have:=hfa.row.len;have:=hF.2;unfold fcs;rw [List.length_map];omega
  have hAI:=allI_of h32 s co
  have hfat:=hfa.fat
  have hes:=fun e => entF_some h32 (s:=s) (c:=co) (f:=e)
  have hpt:=fun cs i k hi hk hne x hx at_ hat => part_at h32 (s:=s) (c:=co) (cs:=cs) (i:=i) (k:=k) hi hk hne x hx at_ hat
  have hob:=fun q => openE_bad (L:=fcs l) (s:=s) (c:=co) q
  have hon:=fun q e => openE_none (L:=fcs l) (s:=s) (c:=co) q e
  have hos:=fun q e he => openE_some (L:=fcs l) (s:=s) (c:=co) q (f:=e) he
  have hAL : (allC (fcs l) s co).length ≤ 14:=by omega
  clear hx hF hfa h32 hal
  generalize hALe : allC (fcs l) s co = AL at *
  repeat' (first|apply GO_seq|apply GO_skip|apply GO_block|apply GO_region|apply GOl_nil|(apply GOl_pv;(iterate 3 exact rfl))|(apply GOl_to;(iterate 3 exact rfl);(first|(apply OpTo_val;exact rfl;exact has8;exact hsane;skip)|(apply OpTo_val;exact rfl;exact has9;exact hfew;skip)|(apply OpTo_res;exact rfl;exact has18;exact k1 _ (by first|exact Le.refl _|assumption|(repeat (first|assumption|(apply Le.trans;assumption))));rintro v1 h1 hle1 ⟨A1,c1,rfl,hnc1,hs1⟩;skip)))|(apply GO_cond;exact rfl;all_goals (intro hc;try simp only [hcS,reduceCtorEq] at hc;try (exfalso;omega))))
  all_goals (try (exfalso;simp at hc;done))
  clear hsane hfew k1
  refine GO_loopT (X:=Nat × Ro) (fun y => y.1 ≤ AL.length ∧ Le h1 y.2) (fun y => AL.length - y.1)
    (fun y => [(8,.int .i64 y.1),(7,.slice A1 AL.length c1),(0,.slice A n c),(1,.int .i64 s),(2,.int .i64 co)])
    (fun _ => []) (fun y => y.2) (0,h1) ⟨by dsimp only;omega,Le.refl _⟩ QS QT rfl ?_
  rintro ⟨i,hh⟩ ⟨hi,hle⟩ ih
  dsimp only at hi hle ih ⊢
  have hs2:=hs1.le hle
  have hle0 : Le h hh:=(by first|exact Le.refl _|assumption|(repeat (first|assumption|(apply Le.trans;assumption))))
  by_cases hin : i < AL.length
  · have a1:=hs2.addrD hin
    have d1 : CellsAt hh ((addrD A1).add (i * ty28.size)) (resC (AL.getD i res0)):=hs2.cellsD res0 hin
    have ho:=hAI.of i hin
    have hsc:=hAI.sc i hin
    have hlt:=hAI.lt (i - 1)
    have hof:=fun h' (hl : Le hh h') => k2 h' (hle0.trans hl) (AL.getD i res0).g
    rw [ho] at hof
    simp only [resO,Option.getD_some,Option.isSome_some] at hof
    have h9:=fun h' (hl : Le hh h') => ih (i + 1,h') ⟨by dsimp only;omega,hle.trans hl⟩ (by dsimp only;omega)
    dsimp only at h9
    clear ih k2 k3 k4 k5 k6 hes hpt hob hon hos
    by_cases hi0 : i = 0
    · subst hi0
      generalize AL.getD 0 res0 = r at *
      obtain ⟨q1,q2⟩:=hsc
      clear hlt hAI ho
      repeat' (first|apply GO_seq|apply GO_skip|apply GO_block|apply GO_region|apply GOl_nil|(apply GO_exit;exact rfl)|(apply GOl_to;(iterate 3 exact rfl);apply OpTo_alloc (e:=28);exact rfl;intro br)|(apply GOl_add;(iterate 3 exact rfl);omega;exact rfl;exact rfl)|(apply GOl_pv;(iterate 3 exact rfl))|(apply GOl_ov;exact rfl;exact rfl;(first|(apply OV_idxS (j:=0);(iterate 5 exact rfl);exact a1;omega;omega)|(apply OV_load;exact rfl;exact Lv_ro rfl (d1.le (by first|exact Le.refl _|assumption|(repeat (first|assumption|(apply Le.trans;assumption))))) rfl));exact QA)|(apply GOl_to;(iterate 3 exact rfl);(first|(apply OpTo_store;(iterate 3 exact rfl);exact QR;(iterate 3 exact rfl);skip)|(apply OpTo_res;exact rfl;exact has10;exact hof _ (by first|exact Le.refl _|assumption|(repeat (first|assumption|(apply Le.trans;assumption))));rintro v2 h2 hle2 rfl;skip)))|(apply GO_drawp (n:=10) [0,1,2,3,4,5,6,7,8,9,10,11,12,13,14,15,16,17,18,19,20,21,22,23] [(0,0),(1,0),(2,0),(3,0),(4,0),(5,0),(6,0),(7,0),(8,0),(9,0),(10,0),(11,0),(12,0),(13,0),(14,0),(15,0),(16,0),(17,0),(18,0),(19,0),(20,0),(21,0),(22,0),(23,0)];kernel_rfl)|(apply GP_pv;exact rfl;kernel_rfl;(iterate 3 exact rfl))|(apply GP_loadB;exact rfl;kernel_rfl;(iterate 3 exact rfl);exact QM;exact rfl;exact rfl)|(apply GP_ov;exact rfl;kernel_rfl;exact rfl;exact rfl;(first|(apply OV_idxS (j:=0);(iterate 5 exact rfl);exact a1;omega;omega)|(apply OV_load;exact rfl;exact Lv_ro rfl (d1.le (by first|exact Le.refl _|assumption|(repeat (first|assumption|(apply Le.trans;assumption))))) rfl)|(apply OV_neqR;(iterate 3 exact rfl);kernel_rfl;kernel_rfl));exact QA)|(apply GP_done;kernel_rfl;exact rfl)|(apply GP_split;(iterate 5 exact rfl);all_goals (intro hc;try simp only [hcS,reduceCtorEq] at hc;try (exfalso;omega)))|(apply GO_cond;exact rfl;all_goals (intro hc;try simp only [hcS,reduceCtorEq] at hc;try (exfalso;omega))))
      all_goals first
        | (exfalso;omega)
        | (exfalso;simp at hc;done)
        | (have h8:=h9 h2 hle2
           refine GO_fit QS QT (h8))
    · have hin1 : i - 1 < AL.length:=by omega
      have a2:=hs2.addrD hin1
      have d2 : CellsAt hh ((addrD A1).add ((i - 1) * ty28.size)) (resC (AL.getD (i - 1) res0)):=hs2.cellsD res0 hin1
      have hlt:=hlt (by omega)
      rw [show i - 1 + 1 = i by omega] at hlt
      generalize AL.getD i res0 = r at *
      generalize AL.getD (i - 1) res0 = p at *
      obtain ⟨q1,q2⟩:=hsc
      unfold LtR at hlt
      clear hAI ho
      repeat' (first|apply GO_seq|apply GO_skip|apply GO_inBlock|apply GO_block|apply GO_region|apply GOl_nil|(apply GOl_to;(iterate 3 exact rfl);apply OpTo_alloc (e:=28);exact rfl;intro br)|(apply GOl_unwanted;exact rfl;exact rfl)|(apply GOl_add;(iterate 3 exact rfl);omega;exact rfl;exact rfl)|(apply GOl_pv;(iterate 3 exact rfl))|(apply GOl_load;exact rfl;exact Ld_blk rfl QM rfl;exact rfl;exact rfl)|(apply GOl_ov;exact rfl;exact rfl;(first|(apply OV_idxS (j:=i);(iterate 5 exact rfl);exact a1;(with_reducible exact rfl);omega)|(apply OV_load;exact rfl;exact Lv_ro rfl (d1.le (by first|exact Le.refl _|assumption|(repeat (first|assumption|(apply Le.trans;assumption))))) rfl)|(apply OV_idxA (j:=0);(iterate 5 exact rfl);omega;omega)|(apply OV_idxA (j:=1);(iterate 5 exact rfl);omega;omega)|(apply OV_idxA (j:=2);(iterate 5 exact rfl);omega;omega));exact QA)|(apply GOl_to;(iterate 3 exact rfl);(first|(apply OpTo_store;(iterate 3 exact rfl);exact QR;(iterate 3 exact rfl);skip)|(apply OpTo_alloc;exact rfl;intro b;skip)|(apply OpTo_res;exact rfl;exact has10;exact hof _ (by first|exact Le.refl _|assumption|(repeat (first|assumption|(apply Le.trans;assumption))));rintro v2 h2 hle2 rfl;skip)))|(apply GO_drawp (n:=10) [0,1,2,3,4,5,6,7,8,9,10,11,12,13,14,15,16,17,18,19,20,21,22,23] [(0,0),(1,0),(2,0),(3,0),(4,0),(5,0),(6,0),(7,0),(8,0),(9,0),(10,0),(11,0),(12,0),(13,0),(14,0),(15,0),(16,0),(17,0),(18,0),(19,0),(20,0),(21,0),(22,0),(23,0)];kernel_rfl)|(apply GO_drawp (n:=13) [0,1,2,3,4,5,6,7,8,9,10,11,12,13,14,15,16,17,18,19,20,21,22] [(0,0),(1,0),(2,0),(3,0),(4,0),(5,0),(6,0),(7,0),(8,0),(9,0),(10,0),(11,0),(12,0),(13,0),(14,0),(15,0),(16,0),(17,0),(18,0),(19,0),(20,0),(21,1),(22,1)];kernel_rfl)|(apply GP_sub;exact rfl;kernel_rfl;(iterate 5 exact rfl);omega)|(apply GP_pv;exact rfl;kernel_rfl;(iterate 3 exact rfl))|(apply GP_loadB;exact rfl;kernel_rfl;(iterate 3 exact rfl);exact QM;exact rfl;exact rfl)|(apply GP_ov;exact rfl;kernel_rfl;exact rfl;exact rfl;(first|(apply OV_idxS (j:=i);(iterate 5 exact rfl);exact a1;(with_reducible exact rfl);omega)|(apply OV_idxS (j:=i - 1);(iterate 5 exact rfl);exact a2;omega;omega)|(apply OV_load;exact rfl;exact Lv_ro rfl (d1.le (by first|exact Le.refl _|assumption|(repeat (first|assumption|(apply Le.trans;assumption))))) rfl)|(apply OV_load;exact rfl;exact Lv_roF rfl (d2.le (by first|exact Le.refl _|assumption|(repeat (first|assumption|(apply Le.trans;assumption))))) rfl)|(apply OV_neqR;(iterate 3 exact rfl);kernel_rfl;kernel_rfl));exact QA)|(apply GP_real;exact rfl;kernel_rfl;(iterate 3 exact rfl);(first|(apply OpTo_store;(iterate 3 exact rfl);exact QR;(iterate 3 exact rfl);refine ⟨Le.refl _,QN,?_⟩)|(apply OpTo_alloc;exact rfl;intro b;refine ⟨Le.refl _,QN,?_⟩)))|(apply GP_done;kernel_rfl;exact rfl)|(apply GP_split;(iterate 5 exact rfl);all_goals (intro hc;try simp only [hcS,reduceCtorEq] at hc;try (exfalso;omega)))|(apply GO_cond;exact rfl;all_goals (intro hc;try simp only [hcS,reduceCtorEq] at hc;try (exfalso;omega)))|(apply GOl_split;exact rfl;exact rfl;all_goals (intro hc;try simp only [hcS,reduceCtorEq] at hc;try (exfalso;omega))))
      all_goals first
        | (exfalso;omega)
        | (exfalso;simp at hc;done)
        | (have h8:=h9 h2 hle2
           refine GO_fit QS QT (h8))
  clear ih hAI k2
  by_cases hr : 0 ≤ s ∧ s < 64 ∧ 0 ≤ co ∧ co < 8
  case' neg =>
    obtain ⟨e1,e2⟩:=hob hr
    rw [e1,e2] at k3
    clear k5 k6 hes hpt hob hon hos
    repeat' (first|apply GO_seq|apply GO_region|apply GOl_nil|(apply GO_exit;exact rfl)|(apply GOl_to;(iterate 3 exact rfl);apply OpTo_alloc (e:=42);exact rfl;intro bx)|(apply GOl_unwanted;exact rfl;exact rfl)|(apply GOl_pv;(iterate 3 exact rfl))|(apply GOl_to;(iterate 3 exact rfl);(first|(apply OpTo_store;(iterate 3 exact rfl);exact QR;(iterate 3 exact rfl);skip)|(apply OpTo_res;exact rfl;exact has19;exact k3 _ (by first|exact Le.refl _|assumption|(repeat (first|assumption|(apply Le.trans;assumption))));rintro v2 h2 hle2 ⟨A2,c2,rfl,hs3⟩;skip)|(apply OpTo_res;exact rfl;exact has20;exact k4 _ (by first|exact Le.refl _|assumption|(repeat (first|assumption|(apply Le.trans;assumption))));rintro v3 h3 hle3 ⟨z,ok,rfl,_⟩;skip)))|(apply GO_cond;exact rfl;all_goals (intro hc;try simp only [hcS,reduceCtorEq] at hc;try (exfalso;omega)))|(apply GOl_split;exact rfl;exact rfl;all_goals (intro hc;try simp only [hcS,reduceCtorEq] at hc;try (exfalso;omega))))
    all_goals first
      | (exfalso;omega)
      | (exfalso;simp at hc;done)
      | (exact GO_retR1 rfl rfl rfl (by simp [eqI_eq];done))
  cases he : entF (fcs l) s co with
  | none =>
    obtain ⟨e1,e2⟩:=hon hr he
    have k6:=fun h' hl => k6 h' hl he
    rw [e1,e2] at k3
    clear k4 k5 hes hpt hob hon hos
    repeat' (first|apply GO_seq|apply GO_region|apply GOl_nil|(apply GO_exit;exact rfl)|(apply GOl_to;(iterate 3 exact rfl);apply OpTo_alloc (e:=42);exact rfl;intro bx)|(apply GOl_unwanted;exact rfl;exact rfl)|(apply GOl_pv;(iterate 3 exact rfl))|(apply GOl_to;(iterate 3 exact rfl);(first|(apply OpTo_store;(iterate 3 exact rfl);exact QR;(iterate 3 exact rfl);skip)|(apply OpTo_res;exact rfl;exact has19;exact k3 _ (by first|exact Le.refl _|assumption|(repeat (first|assumption|(apply Le.trans;assumption))));rintro v2 h2 hle2 ⟨A2,c2,rfl,hs3⟩;skip)|(apply OpTo_res;exact rfl;exact has20;exact k6 _ (by first|exact Le.refl _|assumption|(repeat (first|assumption|(apply Le.trans;assumption))));rintro v3 h3 hle3 rfl;skip)))|(apply GO_cond;exact rfl;all_goals (intro hc;try simp only [hcS,reduceCtorEq] at hc;try (exfalso;omega)))|(apply GOl_split;exact rfl;exact rfl;all_goals (intro hc;try simp only [hcS,reduceCtorEq] at hc;try (exfalso;omega))))
    all_goals first
      | (exfalso;omega)
      | (exfalso;simp at hc;done)
      | (exact GO_retR1 rfl rfl rfl (by simp [eqI_eq];done))
  | some e =>
    obtain ⟨e1,e2⟩:=hos hr e he
    have k5:=fun h' hl => k5 h' hl e he
    obtain ⟨_,q1,q2,q3,hok⟩:=hes e he
    obtain ⟨hel,hinc⟩:=ent_clubs hok q1
    have hne:=fun i k => incr_ne hinc (i:=i) (k:=k)
    have hpt:=hpt e.eClubs
    rw [e1,e2] at k3
    have hks:=fun hs x => openK_snoc (fcs l) s co hs e.eClubs x
    have hno:=fun x a aa bs => openH_no (L:=fcs l) (s:=s) (c:=co) (h:=x) (a:=a) (aa:=aa) (bs:=bs)
    have hye:=fun x a aa bs => openH_yes (L:=fcs l) (s:=s) (c:=co) (h:=x) (a:=a) (aa:=aa) (bs:=bs)
    have hse:=fun x => isO_self (L:=fcs l) (s:=s) (c:=co) (h:=x)
    have hkl:=openK_len (fcs l) s co e.eClubs e.eClubs
    have hcl : ∀ zs,(zs,e) ∈ l → SlOf encI 1 h zs.cl.A zs.cl.n e.eClubs:=fun zs hm => (hfat _ hm).1.cl
    have hz:=openK_0 (fcs l) s co e.eClubs
    have hz2:=openH_0 (fcs l) s co
    clear k4 k6 hes hob hon hos q1 q2 q3 hok hinc e1 e2 he hfat
    generalize openK (fcs l) s co = K at *
    generalize openH (fcs l) s co = H at *
    generalize isOpen (fcs l) s co = O at *
    generalize hcl0 : e.eClubs = cl at *
    have hKl : (K cl cl).length ≤ 576:=by
      have : cl.length * cl.length ≤ 24 * 24:=Nat.mul_le_mul hel hel
      omega
    generalize hOP : K cl cl = OP at *
    repeat' (first|apply GO_seq|apply GO_skip|apply GO_block|apply GO_region|apply GOl_nil|(apply GO_exit;exact rfl)|(apply GOl_to;(iterate 3 exact rfl);apply OpTo_alloc (e:=42);exact rfl;intro bx)|(apply GOl_pv;(iterate 3 exact rfl))|(apply GOl_load;exact rfl;exact Ld_blk rfl QM rfl;exact rfl;exact rfl)|(apply GOl_to;(iterate 3 exact rfl);(first|(apply OpTo_store;(iterate 3 exact rfl);exact QR;(iterate 3 exact rfl);skip)|(apply OpTo_res;exact rfl;exact has19;exact k3 _ (by first|exact Le.refl _|assumption|(repeat (first|assumption|(apply Le.trans;assumption))));rintro v2 h2 hle2 ⟨A2,c2,rfl,hs3⟩;skip)|(apply OpTo_res;exact rfl;exact has20;exact k5 _ (by first|exact Le.refl _|assumption|(repeat (first|assumption|(apply Le.trans;assumption))));rintro v3 h3 hle3 ⟨zs,rfl,hzm⟩;skip)))|(apply GO_cond;exact rfl;all_goals (intro hc;try simp only [hcS,reduceCtorEq] at hc;try (exfalso;omega))))
    all_goals (try (exfalso;omega))
    all_goals (try (exfalso;simp at hc;done))
    all_goals (try (exfalso;have w5:=(hcl zs hzm).len;omega))
    have hl3 : Le h h3:=(by first|exact Le.refl _|assumption|(repeat (first|assumption|(apply Le.trans;assumption))))
    have hsl:=(hcl zs hzm).le hl3
    have hln:=hsl.len
    have hs33:=hs3.le hle3
    have hs13 : SlOf resC 13 h3 A1 AL.length AL:=hs1.le (by first|exact Le.refl _|assumption|(repeat (first|assumption|(apply Le.trans;assumption))))
    clear k3 k5 hcl hzm hs2 hs3 hs1
    refine GO_loopT (X:=Nat) (fun i => i ≤ zs.cl.n) (fun i => zs.cl.n - i)
      (fun i => [(18,.int .i64 i),(17,.int .i64 ((K (cl.take i) cl).length : Int)),(15,ptrV bx),(13,.slice A2 OP.length c2),(7,.slice A1 AL.length c1),(1,.int .i64 s),(2,.int .i64 co)])
      (fun _ => [Blk bx 42 (partL (entV7 zs e))]) (fun _ => h3) 0 (by omega) (by rw [List.take_zero,hz];exact QS) QT rfl ?_
    rintro i hi ih
    by_cases hin : i < zs.cl.n
    case' neg =>
      rw [List.take_of_length_le (by omega),hOP]
      clear ih hpt
      repeat' (first|apply GO_seq|apply GO_region|apply GOl_nil|(apply GO_exit;exact rfl)|(apply GOl_pv;(iterate 3 exact rfl))|(apply GOl_load;exact rfl;exact Ld_blk rfl QM rfl;exact rfl;exact rfl)|(apply GO_cond;exact rfl;all_goals (intro hc;try simp only [hcS,reduceCtorEq] at hc;try (exfalso;omega))))
      all_goals first
        | (exfalso;omega)
        | (exact GO_retR1 rfl rfl rfl (by simp [eqI_eq];done))
    have a1:=hsl.addrD hin
    have d1 : CellsAt h3 ((addrD zs.cl.A).add (i * ty3.size)) (encI (cl.getD i 0)):=hsl.cellsD 0 hin
    have et:=take7 0 (xs:=cl) hln hin
    have hkn:=hks (cl.take i) (cl.getD i 0)
    rw [← et] at hkn
    have hpi:=fun k hk => hpt i k (by omega) hk
    have hnei:=fun k (hk : k < zs.cl.n) (q : i ≠ k) => hne i k (by omega) (by omega) q
    have hnx:=ih (i + 1) (by omega) (by omega)
    rw [hkn,List.length_append] at hnx
    clear ih hpt et hkn hks hz hne
    generalize K (cl.take i) cl = P at *
    generalize hxi : cl.getD i 0 = x at *
    repeat' (first|apply GO_seq|apply GO_skip|apply GO_block|apply GO_region|apply GOl_nil|(apply GOl_pv;(iterate 3 exact rfl))|(apply GOl_load;exact rfl;exact Ld_blk rfl QM rfl;exact rfl;exact rfl)|(apply GO_cond;exact rfl;all_goals (intro hc;try simp only [hcS,reduceCtorEq] at hc;try (exfalso;omega))))
    all_goals (try (exfalso;omega))
    refine GO_loopT (X:=Nat) (fun k => k ≤ zs.cl.n) (fun k => zs.cl.n - k)
      (fun k => [(19,.int .i64 k),(18,.int .i64 i),(17,.int .i64 ((P.length + (H x (cl.take k)).length : Nat) : Int)),(15,ptrV bx),(13,.slice A2 OP.length c2),(7,.slice A1 AL.length c1),(1,.int .i64 s),(2,.int .i64 co)])
      (fun _ => [Blk bx 42 (partL (entV7 zs e))]) (fun _ => h3) 0 (by omega) (by rw [List.take_zero,hz2,List.length_nil,Nat.add_zero];exact QS) QT rfl ?_
    rintro k hk ihk
    by_cases hkz : k < zs.cl.n
    case' neg =>
      rw [List.take_of_length_le (by omega)]
      clear ihk hpi
      repeat' (first|apply GO_seq|apply GO_inBlock|apply GO_region|apply GOl_nil|(apply GO_exit;exact rfl)|(apply GOl_add;(iterate 3 exact rfl);omega;exact rfl;exact rfl)|(apply GOl_pv;(iterate 3 exact rfl))|(apply GOl_load;exact rfl;exact Ld_blk rfl QM rfl;exact rfl;exact rfl)|(apply GO_cond;exact rfl;all_goals (intro hc;try simp only [hcS,reduceCtorEq] at hc;try (exfalso;omega))))
      all_goals first
        | (exfalso;omega)
        | (refine GO_fit QS QT (hnx))
    have a2:=hsl.addrD hkz
    have d2 : CellsAt h3 ((addrD zs.cl.A).add (k * ty3.size)) (encI (cl.getD k 0)):=hsl.cellsD 0 hkz
    have et:=take7 0 (xs:=cl) hln hkz
    have hpk:=hpi k (by omega)
    have hnek:=hnei k hkz
    have hik : i = k → cl.getD k 0 = x:=fun q => by rw [← q];exact hxi
    have hnx2:=ihk (k + 1) (by omega) (by omega)
    generalize cl.getD k 0 = a at *
    have hnoj:=hno x a _ _ et
    have hyej:=hye x a _ _ et
    clear ihk hnx et hno hye hpi hnei
    by_cases hij : i = k
    · rw [hnoj (by rw [hik hij];exact hse x)] at hnx2
      clear hpk hyej
      repeat' (first|apply GO_seq|apply GO_skip|apply GO_block|apply GO_region|apply GOl_nil|(apply GO_exit;exact rfl)|(apply GOl_add;(iterate 3 exact rfl);omega;exact rfl;exact rfl)|(apply GOl_pv;(iterate 3 exact rfl))|(apply GOl_load;exact rfl;exact Ld_blk rfl QM rfl;exact rfl;exact rfl)|(apply GO_cond;exact rfl;all_goals (intro hc;try simp only [hcS,reduceCtorEq] at hc;try (exfalso;omega))))
      all_goals first
        | (exfalso;omega)
        | (refine GO_fit QS QT (hnx2))
    have hpt:=hpk (hnek hij) ⟨s,co,x,a⟩ rfl _ rfl
    rw [List.length_append] at hpt
    clear hpk hnek hik
    repeat' (first|apply GO_seq|apply GO_skip|apply GO_block|apply GO_region|apply GOl_nil|(apply GOl_pv;(iterate 3 exact rfl))|(apply GOl_load;exact rfl;exact Ld_blk rfl QM rfl;exact rfl;exact rfl)|(apply GO_drawp (n:=31) [0,1,2,3,4,5,6,7,8,9,10,11,12,13,14] [(0,0),(1,0),(2,0),(3,0),(4,0),(5,0),(6,0),(7,0),(8,0),(9,0),(10,0),(11,0),(12,0),(13,1),(14,1)];kernel_rfl)|(apply GP_pv;exact rfl;kernel_rfl;(iterate 3 exact rfl))|(apply GP_loadB;exact rfl;kernel_rfl;(iterate 3 exact rfl);exact QM;exact rfl;exact rfl)|(apply GP_ov;exact rfl;kernel_rfl;exact rfl;exact rfl;(first|(apply OV_idxS (j:=i) (n:=zs.cl.n);(iterate 5 exact rfl);exact a1;(with_reducible exact rfl);omega)|(apply OV_idxS (j:=k) (n:=zs.cl.n);(iterate 5 exact rfl);exact a2;(with_reducible exact rfl);omega)|(apply OV_load;exact rfl;first|exact Lv_ro rfl d1 rfl|exact Lv_ro rfl d2 rfl));exact QA)|(apply GP_real;exact rfl;kernel_rfl;(iterate 3 exact rfl);(first|(apply OpTo_store;(iterate 3 exact rfl);exact QR;(iterate 3 exact rfl);refine ⟨Le.refl _,QN,?_⟩)|(apply OpTo_alloc;exact rfl;intro b;refine ⟨Le.refl _,QN,?_⟩)))|(apply GP_done;kernel_rfl;exact rfl)|(apply GO_cond;exact rfl;all_goals (intro hc;try simp only [hcS,reduceCtorEq] at hc;try (exfalso;omega))))
    all_goals (try (exfalso;omega))
    generalize b = bg at *
    refine GO_loopT (X:=Nat) (fun j => j ≤ AL.length) (fun j => AL.length - j)
      (fun j => [(22,.int .i64 j),(21,.int .i64 (cntG (AL.take j) ⟨s,co,x,a⟩)),(20,ptrV bg),(19,.int .i64 k),(18,.int .i64 i),(17,.int .i64 ((P.length + (H x (cl.take k)).length : Nat) : Int)),(15,ptrV bx),(13,.slice A2 OP.length c2),(7,.slice A1 AL.length c1),(1,.int .i64 s),(2,.int .i64 co)])
      (fun _ => [Blk bg 24 (gameC ⟨s,co,x,a⟩),Blk bx 42 (partL (entV7 zs e))]) (fun _ => h3) 0 (by omega) (by rw [show cntG (AL.take 0) ⟨s,co,x,a⟩ = 0 from rfl];exact QS) QT rfl ?_
    rintro j hj ihj
    by_cases hjn : j < AL.length
    case' pos =>
      have a3:=hs13.addrD hjn
      have d3 : CellsAt h3 ((addrD A1).add (j * ty28.size)) (resC (AL.getD j res0)):=hs13.cellsD res0 hjn
      have et:=take7 res0 (xs:=AL) rfl hjn
      have h9:=ihj (j + 1) (by omega) (by omega)
      have hbd:=cntG_bd (AL.take j) ⟨s,co,x,a⟩
      rw [List.length_take] at hbd
      rw [et,cntG_snoc] at h9
      generalize AL.getD j res0 = r at *
      generalize cntG (AL.take j) ⟨s,co,x,a⟩ = m at *
      have hge:=game_eq r.g ⟨s,co,x,a⟩
      clear ihj hpt hnx2 hnoj hyej et
      by_cases hg : r.g = ⟨s,co,x,a⟩
      case' pos =>
        rw [if_pos hg] at h9
        rw [decide_eq_true hg] at hge
      case' neg =>
        rw [if_neg hg] at h9
        rw [decide_eq_false hg] at hge
      all_goals
        repeat' (first|apply GO_seq|apply GO_skip|apply GO_inBlock|apply GO_block|apply GO_region|apply GOl_nil|(apply GOl_add;(iterate 3 exact rfl);omega;exact rfl;exact rfl)|(apply GOl_pv;(iterate 3 exact rfl))|(apply GO_drawp (n:=36) [0,1,2,3,4,5,6] [(0,0),(1,0),(2,0),(3,0),(4,0),(5,0),(6,0)];kernel_rfl)|(apply GP_pv;exact rfl;kernel_rfl;(iterate 3 exact rfl))|(apply GP_loadB;exact rfl;kernel_rfl;(iterate 3 exact rfl);exact QM;exact rfl;exact rfl)|(apply GP_ov;exact rfl;kernel_rfl;exact rfl;exact rfl;(first|(apply OV_idxS (j:=j) (n:=AL.length);(iterate 5 exact rfl);exact a3;(with_reducible exact rfl);omega)|(apply OV_load;exact rfl;exact Lv_roF rfl d3 rfl)|(apply OV_eqlS;exact rfl;exact rfl;exact hge;kernel_rfl;kernel_rfl));exact QA)|(apply GP_done;kernel_rfl;exact rfl)|(apply GO_cond;exact rfl;all_goals (intro hc;try simp only [hcS,reduceCtorEq] at hc;try (exfalso;omega))))
      all_goals first
        | (exfalso;omega)
        | (exfalso;simp at hc;done)
        | (refine GO_fit QS QT (h9))
    rw [List.take_of_length_le (by omega)]
    clear ihj
    rcases hpt with ⟨p1,p2,p3,p4⟩|⟨p1,p2,p3⟩
    · rw [hyej p4,List.length_append] at hnx2
      rw [p1]
      generalize (H x (cl.take k)).length = q at *
      have a3:=hs33.addrD p2
      have d3 : CellsAt h3 ((addrD A2).add ((P.length + q) * ty24.size)) (gameC (OP.getD (P.length + q) game0)):=hs33.cellsD game0 p2
      rw [p3] at d3
      have hge:=game_eq (⟨s,co,x,a⟩ : FGame) ⟨s,co,x,a⟩
      rw [decide_eq_true rfl] at hge
      clear hnoj hyej p4 p3
      have e8 : (((P.length + (q + [(⟨s,co,x,a⟩ : FGame)].length) : Nat)) : Int) = ((P.length + q : Nat) : Int) + 1:=by simp;omega
      rw [e8] at hnx2
      generalize P.length + q = at_ at *
      repeat' (first|apply GO_seq|apply GO_skip|apply GO_inBlock|apply GO_region|apply GOl_nil|(apply GO_exit;exact rfl)|(apply GOl_add;(iterate 3 exact rfl);omega;exact rfl;exact rfl)|(apply GOl_pv;(iterate 3 exact rfl))|(apply GO_drawp (n:=38) [0,1,2,3,4,5,6,7,8,9,10,11] [(0,0),(1,0),(2,0),(3,0),(4,0),(5,0),(6,0),(7,0),(8,0),(9,0),(10,0),(11,0)];kernel_rfl)|(apply GP_pv;exact rfl;kernel_rfl;(iterate 3 exact rfl))|(apply GP_loadB;exact rfl;kernel_rfl;(iterate 3 exact rfl);exact QM;exact rfl;exact rfl)|(apply GP_ov;exact rfl;kernel_rfl;exact rfl;exact rfl;(first|(apply OV_idxS (j:=at_) (n:=OP.length);(iterate 5 exact rfl);exact a3;(with_reducible exact rfl);omega)|(apply OV_load;exact rfl;exact Lv_ro rfl d3 rfl)|(apply OV_eqlS;exact rfl;exact rfl;exact hge;kernel_rfl;kernel_rfl));exact QA)|(apply GP_done;kernel_rfl;exact rfl)|(apply GP_split;(iterate 5 exact rfl);all_goals (intro hc;try simp only [hcS,reduceCtorEq] at hc;try (exfalso;omega)))|(apply GO_cond;exact rfl;all_goals (intro hc;try simp only [hcS,reduceCtorEq] at hc;try (exfalso;omega))))
      all_goals first
        | (exfalso;omega)
        | (exfalso;simp at hc;done)
        | (refine GO_fit QS QT (hnx2))
    · rw [hnoj p2] at hnx2
      rw [p1]
      generalize (H x (cl.take k)).length = q at *
      generalize P.length + q = at_ at *
      clear hnoj hyej p2
      by_cases hlt : at_ < OP.length
      case' pos =>
        have a3:=hs33.addrD hlt
        have d3 : CellsAt h3 ((addrD A2).add (at_ * ty24.size)) (gameC (OP.getD at_ game0)):=hs33.cellsD game0 hlt
        have p4:=p3 hlt
        have hge:=game_eq (OP.getD at_ game0) ⟨s,co,x,a⟩
        rw [decide_eq_false p4] at hge
        generalize OP.getD at_ game0 = y at *
      all_goals
        repeat' (first|apply GO_seq|apply GO_skip|apply GO_inBlock|apply GO_region|apply GOl_nil|(apply GO_exit;exact rfl)|(apply GOl_add;(iterate 3 exact rfl);omega;exact rfl;exact rfl)|(apply GOl_pv;(iterate 3 exact rfl))|(apply GO_drawp (n:=38) [0,1,2,3,4,5,6,7,8,9,10,11] [(0,0),(1,0),(2,0),(3,0),(4,0),(5,0),(6,0),(7,0),(8,0),(9,0),(10,0),(11,0)];kernel_rfl)|(apply GP_un;exact rfl;kernel_rfl;exact rfl;exact rfl)|(apply GP_pv;exact rfl;kernel_rfl;(iterate 3 exact rfl))|(apply GP_loadB;exact rfl;kernel_rfl;(iterate 3 exact rfl);exact QM;exact rfl;exact rfl)|(apply GP_ov;exact rfl;kernel_rfl;exact rfl;exact rfl;(first|(apply OV_idxS (j:=at_) (n:=OP.length);(iterate 5 exact rfl);exact a3;(with_reducible exact rfl);omega)|(apply OV_load;exact rfl;exact Lv_ro rfl d3 rfl)|(apply OV_eqlS;exact rfl;exact rfl;exact hge;kernel_rfl;kernel_rfl));exact QA)|(apply GP_done;kernel_rfl;exact rfl)|(apply GP_split;(iterate 5 exact rfl);all_goals (intro hc;try simp only [hcS,reduceCtorEq] at hc;try (exfalso;omega)))|(apply GO_cond;exact rfl;all_goals (intro hc;try simp only [hcS,reduceCtorEq] at hc;try (exfalso;omega))))
      all_goals first
        | (exfalso;omega)
        | (exfalso;simp at hc;done)
        | (refine GO_fit QS QT (hnx2))
end Go.Hw

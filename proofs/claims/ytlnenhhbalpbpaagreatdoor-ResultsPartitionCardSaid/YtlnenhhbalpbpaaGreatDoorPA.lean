import Derived.Test.YtlnenhhbalpbpaaGreatDoorVD
import Derived.Test.YtlnenhhbalpbpaaGreatDoorXC
import Derived.Test.YtlnenhhbalpbpaaGreatDoorHD
import Derived.Test.YtlnenhhbalpbpaaGreatDoorFH
import Derived.Test.YtlnenhhbalpbpaaGreatDoorFE
import Derived.Test.YtlnenhhbalpbpaaGreatDoorBA
import Derived.Test.YtlnenhhbalpbpaaGreatDoorVF
set_option linter.unusedVariables false
set_option linter.unusedSimpArgs false
set_option maxRecDepth 100000
set_option maxHeartbeats 8000000
namespace Go.Hw
open Go
attribute [local irreducible] GO GOl GDp Val Fn Res CellsAt ValE Blk OwnS MapA OwnPf Has Yl SepA forceL decC memS suspC offL ofGame cardP
open Go.Proofs (Tryz.prog)
theorem cardsP_c (h : Ro) (A : Option Addr) (n c : Nat) (l : List FCard) (hx : SlOf encC 2 h A n l) (hn : n ≤ 1000000) : Val Tryz.prog 65 #[.slice A n c] h (.int .i64 (cardP l)):=by
  refine Val_intro (args:=[_]) ts_ok Go.Proofs.Tryz.func65 rfl rfl fun w0 X0 => ?_
  have hlen:=hx.len
  repeat' (first|apply GO_seq|apply GO_block|apply GO_region|apply GOl_nil|(apply GOl_pv;(iterate 3 exact rfl)))
  refine GO_loopT (X:=Nat) (fun k => k ≤ n) (fun k => n - k) (fun k => [(7,.int .i64 k),(6,.int .i64 n),(5,.slice A n c),(2,.int .i64 (cardP (l.take k)))]) (fun _ => []) (fun _ => h) 0 (by omega) (by rw [List.take_zero,show cardP [] = 0 by unfold cardP;rfl];exact QS) QT rfl ?_
  rintro k hk ih
  by_cases hkn : k < n
  · have a1:=hx.addrD hkn
    have c1 : CellsAt h ((addrD A).add (k * ty128.size)) (encC (l.getD k card0)):=hx.cellsD card0 hkn
    have et:=take7 card0 (xs:=l) hlen hkn
    generalize l.getD k card0 = z at *
    have h3:=ih (k + 1) (by omega) (by omega)
    rw [et,cardP_snoc] at h3
    have hb:=cardP_bd (l.take k)
    rw [List.length_take] at hb
    generalize cardP (l.take k) = m at *
    obtain ⟨zp,zr⟩:=z
    unfold cardP1 at h3
    cases zr
    · rw [if_neg (by simp)] at h3
      repeat' (first|apply GO_seq|apply GO_skip|apply GO_inBlock|apply GO_block|apply GO_region|apply GOl_nil|(apply GOl_to;(iterate 3 exact rfl);apply OpTo_alloc (e:=128);exact rfl;intro bc)|(apply GOl_add;(iterate 3 exact rfl);omega;exact rfl;exact rfl)|(apply GOl_pv;(iterate 3 exact rfl))|(apply GOl_load;exact rfl;exact Ld_blk rfl QM rfl;exact rfl;exact rfl)|(apply GOl_ov;exact rfl;exact rfl;(first|(apply OV_idxS (j:=k);(iterate 5 exact rfl);exact a1;(with_reducible exact rfl);omega)|(apply OV_load;exact rfl;exact Lv_ro rfl c1 rfl));exact QA)|(apply GOl_to;(iterate 3 exact rfl);(first|(apply OpTo_store;(iterate 3 exact rfl);exact QR;(iterate 3 exact rfl);skip)))|(apply GO_cond;exact rfl;all_goals (intro hc;try simp only [hcS,reduceCtorEq] at hc;try (exfalso;omega))))
      all_goals first
        | (exfalso;omega)
        | (exfalso;simp at hc;done)
        | (refine GO_fit QS QT (h3))
    · rw [if_pos rfl] at h3
      repeat' (first|apply GO_seq|apply GO_skip|apply GO_inBlock|apply GO_block|apply GO_region|apply GOl_nil|(apply GOl_to;(iterate 3 exact rfl);apply OpTo_alloc (e:=128);exact rfl;intro bc)|(apply GOl_add;(iterate 3 exact rfl);omega;exact rfl;exact rfl)|(apply GOl_pv;(iterate 3 exact rfl))|(apply GOl_load;exact rfl;exact Ld_blk rfl QM rfl;exact rfl;exact rfl)|(apply GOl_ov;exact rfl;exact rfl;(first|(apply OV_idxS (j:=k);(iterate 5 exact rfl);exact a1;(with_reducible exact rfl);omega)|(apply OV_load;exact rfl;exact Lv_ro rfl c1 rfl));exact QA)|(apply GOl_to;(iterate 3 exact rfl);(first|(apply OpTo_store;(iterate 3 exact rfl);exact QR;(iterate 3 exact rfl);skip)))|(apply GO_cond;exact rfl;all_goals (intro hc;try simp only [hcS,reduceCtorEq] at hc;try (exfalso;omega))))
      all_goals first
        | (exfalso;omega)
        | (exfalso;simp at hc;done)
        | (refine GO_fit QS QT (h3))
  · rw [List.take_of_length_le (by omega)]
    clear ih
    repeat' (first|apply GO_seq|apply GO_region|apply GOl_nil|(apply GO_exit;exact rfl)|(apply GOl_pv;(iterate 3 exact rfl))|(apply GO_cond;exact rfl;all_goals (intro hc;try simp only [hcS,reduceCtorEq] at hc;try (exfalso;omega)))|(apply GO_retV1;(iterate 3 exact rfl)))
    all_goals first
      | (exfalso;omega)
      | rfl
theorem against_c (h : Ro) (g : FGame) (d : Int) (a b : Bool) : Val Tryz.prog 62 #[gameV g,.int .i64 d,.bool a,.bool b] h (resV (against g d a b)):=by
  refine Val_intro (args:=[_,_,_,_]) ts_ok Go.Proofs.Tryz.func62 rfl rfl fun w0 X0 => ?_
  cases a
  all_goals cases b
  all_goals (repeat' (first|apply GO_seq|apply GO_skip|apply GO_inBlock|apply GO_block|apply GO_region|apply GOl_nil|(apply GOl_unwanted;exact rfl;exact rfl)|(apply GOl_pv;(iterate 3 exact rfl))|(apply GOl_load;exact rfl;exact Ld_blk rfl QM rfl;exact rfl;exact rfl)|(apply GOl_to;(iterate 3 exact rfl);(first|(apply OpTo_store;(iterate 3 exact rfl);exact QR;(iterate 3 exact rfl);skip)|(apply OpTo_box;exact rfl;intro b;skip)|(apply OpTo_alloc;exact rfl;intro b;skip)))|(apply GO_cond;exact rfl;all_goals (intro hc;try simp only [hcS,reduceCtorEq] at hc;try (exfalso;omega)))|(apply GO_retC1;(iterate 3 exact rfl);exact QM;exact rfl;exact rfl)))
  all_goals first
    | rfl
    | (exfalso;simp at hc;done)
theorem eff1_c (h : Ro) (g : FGame) (r : FRul) (d : Int) : Val Tryz.prog 61 #[gameV g,rulV r,.int .i64 d] h (.tuple #[resV (against g d (decide (r.club = g.h)) (decide (r.club = g.a))),.bool true]):=by
  refine Val_intro (args:=[_,_,_]) ts_ok Go.Proofs.Tryz.func61 rfl rfl fun w0 X0 => ?_
  rw [← eqI_eq,← eqI_eq]
  repeat' (first|apply GO_seq|apply GO_region|apply GOl_nil|(apply GOl_pv;(iterate 3 exact rfl))|(apply GOl_load;exact rfl;exact Ld_blk rfl QM rfl;exact rfl;exact rfl)|(apply GOl_to;(iterate 3 exact rfl);(first|(apply OpTo_store;(iterate 3 exact rfl);exact QR;(iterate 3 exact rfl);skip)|(apply OpTo_box;exact rfl;intro b;skip)|(apply OpTo_alloc;exact rfl;intro b;skip)|(apply OpTo_val;exact rfl;exact has62;exact against_c _ g d _ _;skip)))|(apply GO_retC2;(iterate 3 exact rfl);exact QM;(iterate 3 exact rfl)))
  all_goals first
    | rfl
theorem eff2_c (h : Ro) (g : FGame) (r : FRul) (d : Int) : Val Tryz.prog 63 #[gameV g,rulV r,.int .i64 d] h (.tuple #[resV res0,.bool false]):=by
  refine Val_intro (args:=[_,_,_]) ts_ok Go.Proofs.Tryz.func63 rfl rfl fun w0 X0 => ?_
  repeat' (first|apply GO_seq|apply GO_region|apply GOl_nil|(apply GOl_pv;(iterate 3 exact rfl))|(apply GOl_load;exact rfl;exact Ld_blk rfl QM rfl;exact rfl;exact rfl)|(apply GOl_to;(iterate 3 exact rfl);(first|(apply OpTo_store;(iterate 3 exact rfl);exact QR;(iterate 3 exact rfl);skip)|(apply OpTo_box;exact rfl;intro b;skip)|(apply OpTo_alloc;exact rfl;intro b;skip)))|(apply GO_retC2;(iterate 3 exact rfl);exact QM;(iterate 3 exact rfl)))
  all_goals first
    | rfl
theorem eff3_c (h : Ro) (g : FGame) (r : FRul) (d : Int) : Val Tryz.prog 64 #[gameV g,rulV r,.int .i64 d] h (.tuple #[resV { res0 with g:=g,day:=d,hg:=r.hg,ag:=r.ag },.bool true]):=by
  refine Val_intro (args:=[_,_,_]) ts_ok Go.Proofs.Tryz.func64 rfl rfl fun w0 X0 => ?_
  repeat' (first|apply GO_seq|apply GO_region|apply GOl_nil|(apply GOl_pv;(iterate 3 exact rfl))|(apply GOl_load;exact rfl;exact Ld_blk rfl QM rfl;exact rfl;exact rfl)|(apply GOl_to;(iterate 3 exact rfl);(first|(apply OpTo_store;(iterate 3 exact rfl);exact QR;(iterate 3 exact rfl);skip)|(apply OpTo_box;exact rfl;intro b;skip)|(apply OpTo_alloc;exact rfl;intro b;skip)))|(apply GO_retC2;(iterate 3 exact rfl);exact QM;(iterate 3 exact rfl)))
  all_goals first
    | rfl
def effV : Option Nat → Value
  | none => .nilFunc
  | some f => .func (.func f) #[] #[]
def effL : List (Int × Option Nat):=insA 3 (some 64) (insA 2 (some 63) (insA 1 (some 61) []))
def effF (k : Int) : Option Nat:=if k = 1 then some 61 else if k = 2 then some 63 else if k = 3 then some 64 else none
theorem effL_look (k : Int) : (lookA k effL).getD none = effF k:=by
  unfold effL effF
  rw [look7,look7,look7]
  by_cases h3 : (3 : Int) = k
  · subst h3;simp
  · by_cases h2 : (2 : Int) = k
    · subst h2;simp
    · by_cases h1 : (1 : Int) = k
      · subst h1;simp
      · rw [if_neg h3,if_neg h2,if_neg h1,if_neg (Ne.symm h1),if_neg (Ne.symm h2),if_neg (Ne.symm h3)];rfl
theorem effects_c (h : Ro) : Fn Tryz.prog 27 #[] [] h fun v Es h' => ∃ bm,v = .map (some bm) ∧ Es = [MapA ekN effV bm effL]:=by
  refine Fn_intro (args:=[]) ts_ok Go.Proofs.Tryz.func27 rfl rfl fun w0 X0 => ?_
  have hK:=KN
  repeat' (first|apply GO_seq|apply GO_region|apply GOl_nil|(apply GOl_pv;(iterate 3 exact rfl))|(apply GOl_to;(iterate 3 exact rfl);(first|(apply OpTo_makeMap ekN effV;intro bm;skip)|(apply OpTo_insert (ek:=ekN) (ev:=effV) (b:=bm) hK (u:=some 61);(iterate 6 exact rfl);exact QR;skip)|(apply OpTo_insert (ek:=ekN) (ev:=effV) (b:=bm) hK (u:=some 63);(iterate 6 exact rfl);exact QR;skip)|(apply OpTo_insert (ek:=ekN) (ev:=effV) (b:=bm) hK (u:=some 64);(iterate 6 exact rfl);exact QR;skip))))
  all_goals first
    | (exact GO_retS1 rfl rfl rfl (by (repeat (first|exact List.Sublist.refl _|exact List.nil_sublist _|apply List.Sublist.cons_cons|apply List.Sublist.cons));done) ⟨_,rfl,rfl⟩)
theorem playedF_no {L : List Fct} {g : FGame} (h : (scoreF L g).kind ≠ 2) : playedF L g = none:=by unfold playedF;rw [if_neg h]
theorem playedF_yes {L : List Fct} {g : FGame} {x : FScore} {o : List Int × List Int} (hx : scoreF L g = x) (ho : offL L g = o) (h : x.kind = 2) : playedF L g = some (playedR g x o):=by unfold playedF;rw [hx,if_pos h,ho]
theorem played_c (h : Ro) (hG : PowG h) (A : Option Addr) (n c : Nat) (l : List (Fsh × Fct)) (hx : FactsAt h A n l) (hn6 : n ≤ 65536) (g : FGame) : Res Tryz.prog 28 #[.slice A n c,gameV g] h (fun u _ => u = resO (playedF (fcs l) g)):=by
  refine Res_intro (args:=[_,_]) ts_ok Go.Proofs.Tryz.func28 rfl rfl fun w0 X0 => ?_
  have h32:=In32_factsX hx
  have hsc:=fun h' (hl : Le h h') => score2_c h' (hG.le hl) A n c l (hx.le hl) g
  have hof:=fun h' (hl : Le h h') => Offenders_c h' (hG.le hl) A n c l (hx.le hl) hn6 g
  have hno:=playedF_no (L:=fcs l) (g:=g)
  have hyes:=fun x o => playedF_yes (L:=fcs l) (g:=g) (x:=x) (o:=o)
  have hbd:=fun q => score_bd h32 (g:=g) q
  have hol:=offL_len h32 g
  rw [show cont l = fcs l from rfl] at hsc
  generalize scoreF (fcs l) g = x at *
  generalize offL (fcs l) g = o at *
  clear hx h32
  by_cases hk2 : x.kind = 2
  case' neg =>
    rw [hno hk2]
    clear hof hyes hbd hol
    repeat' (first|apply GO_seq|apply GO_region|apply GOl_nil|(apply GOl_to;(iterate 3 exact rfl);apply OpTo_box (e:=24);exact rfl;intro b3)|(apply GOl_to;(iterate 3 exact rfl);apply OpTo_alloc (e:=62);exact rfl;intro b6)|(apply GOl_pv;(iterate 3 exact rfl))|(apply GOl_load;exact rfl;exact Ld_blk rfl QM rfl;exact rfl;exact rfl)|(apply GOl_to;(iterate 3 exact rfl);(first|(apply OpTo_store;(iterate 3 exact rfl);exact QR;(iterate 3 exact rfl);skip)|(apply OpTo_alloc;exact rfl;intro b;skip)|(apply OpTo_res;exact rfl;exact has16;exact hsc _ (by first|exact Le.refl _|assumption|(repeat (first|assumption|(apply Le.trans;assumption))));rintro w2 h2 hle2 ⟨s,rfl,hs1,hs2⟩;skip)))|(apply GO_cond;exact rfl;all_goals (intro hc;try simp only [hcS,reduceCtorEq] at hc;try (exfalso;omega))))
    all_goals first
      | (exfalso;omega)
      | (exact GO_retRC2 rfl rfl rfl QM rfl rfl rfl rfl)
      | (exact GO_retR2 rfl rfl rfl rfl rfl)
  rw [hyes x o rfl rfl hk2]
  obtain ⟨⟨_,_,_,_,_,_,_,hq5,hq6,_⟩,_,_⟩:=hbd hk2
  have hl5:=hq5.1
  have hl6:=hq6.1
  obtain ⟨o1,o2⟩:=o
  unfold OffOut at hof
  dsimp only at hof hol
  unfold playedR
  dsimp only
  by_cases he : o1 = [] ∧ o2 = []
  · rw [if_pos he]
    obtain ⟨rfl,rfl⟩:=he
    clear hno hyes hbd
    repeat' (first|apply GO_seq|apply GO_skip|apply GO_region|apply GOl_nil|(apply GOl_to;(iterate 3 exact rfl);apply OpTo_box (e:=24);exact rfl;intro b3)|(apply GOl_to;(iterate 3 exact rfl);apply OpTo_alloc (e:=62);exact rfl;intro b6)|(apply GOl_to;(iterate 3 exact rfl);apply OpTo_alloc (e:=47);exact rfl;intro b7)|(apply GOl_add;(iterate 3 exact rfl);omega;exact rfl;exact rfl)|(apply GOl_pv;(iterate 3 exact rfl))|(apply GOl_load;exact rfl;exact Ld_blk rfl QM rfl;exact rfl;exact rfl)|(apply GOl_to;(iterate 3 exact rfl);(first|(apply OpTo_store;(iterate 3 exact rfl);exact QR;(iterate 3 exact rfl);skip)|(apply OpTo_alloc;exact rfl;intro b;skip)|(apply OpTo_res;exact rfl;exact has16;exact hsc _ (by first|exact Le.refl _|assumption|(repeat (first|assumption|(apply Le.trans;assumption))));rintro w2 h2 hle2 ⟨s,rfl,hs1,hs2⟩;(have hn1:=hs1.hc.len);(have hn2:=hs1.ac.len);skip)|(apply OpTo_res;exact rfl;exact has17;exact hof _ (by first|exact Le.refl _|assumption|(repeat (first|assumption|(apply Le.trans;assumption))));rintro v1 e1 he1 ⟨A1,d1,A2,d2,rfl,hO1,hO2⟩;skip)))|(apply GO_drawp (n:=8) [0,1,2,3,4,5,6,7,8,9,10,11,12,13,14,15,16,17,18,19] [(0,0),(1,0),(2,0),(3,0),(4,0),(5,0),(6,0),(7,0),(8,0),(9,0),(10,0),(11,0),(12,0),(14,0),(15,0),(13,1),(16,1),(17,0),(18,1),(19,0)];kernel_rfl)|(apply GP_pv;exact rfl;kernel_rfl;(iterate 3 exact rfl))|(apply GP_loadB;exact rfl;kernel_rfl;(iterate 3 exact rfl);exact QM;exact rfl;exact rfl)|(apply GP_real;exact rfl;kernel_rfl;(iterate 3 exact rfl);(first|(apply OpTo_store;(iterate 3 exact rfl);exact QR;(iterate 3 exact rfl);refine ⟨Le.refl _,QN,?_⟩)|(apply OpTo_val;exact rfl;exact has65;(first|exact cardsP_c _ _ _ _ x.sh.hc (hs1.hc.le (by first|exact Le.refl _|assumption|(repeat (first|assumption|(apply Le.trans;assumption))))) (by omega)|exact cardsP_c _ _ _ _ x.sh.ac (hs1.ac.le (by first|exact Le.refl _|assumption|(repeat (first|assumption|(apply Le.trans;assumption))))) (by omega));refine ⟨Le.refl _,QN,?_⟩)))|(apply GP_done;kernel_rfl;exact rfl)|(apply GO_cond;exact rfl;all_goals (intro hc;try simp only [hcS,reduceCtorEq] at hc;try (exfalso;omega))))
    all_goals first
      | (exfalso;omega)
      | (exfalso;simp at hc;done)
      | (exact GO_retRC2 rfl rfl rfl QM rfl rfl rfl rfl)
      | (exact GO_retR2 rfl rfl rfl rfl rfl)
  · rw [if_neg he]
    have hp : 0 < o1.length + o2.length:=by
      refine Classical.byContradiction fun w => he ⟨List.eq_nil_of_length_eq_zero (by omega),List.eq_nil_of_length_eq_zero (by omega)⟩
    have q1 : decide (o1 ≠ []) = ltI 0 (o1.length : Int):=by cases o1 <;> simp [ltI]
    have q2 : decide (o2 ≠ []) = ltI 0 (o2.length : Int):=by cases o2 <;> simp [ltI]
    rw [q1,q2]
    clear hno hyes hbd he q1 q2
    repeat' (first|apply GO_seq|apply GO_skip|apply GO_region|apply GOl_nil|(apply GOl_to;(iterate 3 exact rfl);apply OpTo_box (e:=24);exact rfl;intro b3)|(apply GOl_to;(iterate 3 exact rfl);apply OpTo_alloc (e:=62);exact rfl;intro b6)|(apply GOl_add;(iterate 3 exact rfl);omega;exact rfl;exact rfl)|(apply GOl_pv;(iterate 3 exact rfl))|(apply GOl_load;exact rfl;exact Ld_blk rfl QM rfl;exact rfl;exact rfl)|(apply GOl_to;(iterate 3 exact rfl);(first|(apply OpTo_store;(iterate 3 exact rfl);exact QR;(iterate 3 exact rfl);skip)|(apply OpTo_alloc;exact rfl;intro b;skip)|(apply OpTo_res;exact rfl;exact has16;exact hsc _ (by first|exact Le.refl _|assumption|(repeat (first|assumption|(apply Le.trans;assumption))));rintro w2 h2 hle2 ⟨s,rfl,hs1,hs2⟩;skip)|(apply OpTo_res;exact rfl;exact has17;exact hof _ (by first|exact Le.refl _|assumption|(repeat (first|assumption|(apply Le.trans;assumption))));rintro v1 e1 he1 ⟨A1,d1,A2,d2,rfl,hO1,hO2⟩;skip)|(apply OpTo_val;exact rfl;exact has62;exact against_c _ g x.day _ _;skip)))|(apply GO_cond;exact rfl;all_goals (intro hc;try simp only [hcS,reduceCtorEq] at hc;try (exfalso;omega))))
    all_goals first
      | (exfalso;omega)
      | (exfalso;simp at hc;done)
      | (exact GO_retRC2 rfl rfl rfl QM rfl rfl rfl rfl)
      | (exact GO_retR2 rfl rfl rfl rfl rfl)
theorem ofF_bad {L : List Fct} {g : FGame} (h : ¬ GameOk g) : ofF L g = none:=by unfold ofF;rw [if_neg h]
theorem Of12_c (h : Ro) (hG : PowG h) (A : Option Addr) (n c : Nat) (l : List (Fsh × Fct)) (hx : FactsAt h A n l) (hn6 : n ≤ 65536) (g : FGame) : Res Tryz.prog 10 #[.slice A n c,gameV g] h (fun u _ => u = resO (ofF (fcs l) g)):=by
  refine Res_intro (args:=[_,_]) ts_ok Go.Proofs.Tryz.func10 rfl rfl fun w0 X0 => ?_
  have h32:=In32_factsX hx
  have hgm:=fun h' => game7_c h' g
  have hog:=fun h' (hl : Le h h') => OfGame_c h' (hG.le hl) A n c l (hx.le hl) g
  have hpl:=fun h' (hl : Le h h') => played_c h' (hG.le hl) A n c l (hx.le hl) hn6 g
  have hsome:=ofGame_some (C:=canonL (fcs l)) (canonL_okF h32) (g:=g)
  by_cases hg : GameOk g
  · simp only [if_pos hg] at hgm
    have hru:=fun r d q => ofF_ruled (L:=fcs l) hg (r:=r) (d:=d) q
    have hpy:=fun q => ofF_played (L:=fcs l) hg q
    generalize ofGame (canonL (fcs l)) g = oo at *
    obtain ⟨r,d,ok⟩:=oo
    dsimp only at hog hpy hsome
    clear hx h32
    cases ok
    · rw [hpy rfl]
      generalize playedF (fcs l) g = pf at *
      clear hru hpy hsome
      repeat' (first|apply GO_seq|apply GO_skip|apply GO_region|apply GOl_nil|(apply GOl_pv;(iterate 3 exact rfl))|(apply GOl_load;exact rfl;exact Ld_blk rfl QM rfl;exact rfl;exact rfl)|(apply GOl_to;(iterate 3 exact rfl);(first|(apply OpTo_store;(iterate 3 exact rfl);exact QR;(iterate 3 exact rfl);skip)|(apply OpTo_box;exact rfl;intro b;skip)|(apply OpTo_alloc;exact rfl;intro b;skip)|(apply OpTo_val;exact rfl;exact has26;exact hgm _;skip)|(apply OpTo_res;exact rfl;exact has15;exact hog _ (by first|exact Le.refl _|assumption|(repeat (first|assumption|(apply Le.trans;assumption))));rintro v1 h1 hle1 rfl;skip)|(apply OpTo_res;exact rfl;exact has28;exact hpl _ (by first|exact Le.refl _|assumption|(repeat (first|assumption|(apply Le.trans;assumption))));rintro v2 h2 hle2 rfl;skip)))|(apply GO_cond;exact rfl;all_goals (intro hc;try simp only [hcS,reduceCtorEq] at hc;try (exfalso;omega))))
      all_goals first
        | (exfalso;omega)
        | (exfalso;simp at hc;done)
        | (exact GO_retRC2 rfl rfl rfl QM rfl rfl rfl rfl)
        | (exact GO_retR2 rfl rfl rfl rfl rfl)
    · rw [hru r d rfl]
      obtain ⟨f,_,_,_,_,hab,_,hfe⟩:=hsome rfl
      have hk : r.kind = 1 ∨ r.kind = 2 ∨ r.kind = 3:=by
        have:=congrArg (·.1) hfe
        dsimp only at this
        rw [this];exact hab.2
      have hlk:=effL_look r.kind
      clear hru hpy hsome hpl hab hfe
      unfold effF at hlk
      unfold ruledR
      rcases hk with hk|hk|hk
      · rw [if_pos hk] at hlk ⊢
        repeat' (first|apply GO_seq|apply GO_skip|apply GO_region|apply GOl_nil|(apply GOl_to;(iterate 3 exact rfl);apply OpTo_box (e:=24);exact rfl;intro b3)|(apply GOl_to;(iterate 3 exact rfl);apply OpTo_alloc (e:=28);exact rfl;intro b4)|(apply GOl_to;(iterate 3 exact rfl);apply OpTo_alloc (e:=39);exact rfl;intro b6)|(apply GOl_pv;(iterate 3 exact rfl))|(apply GOl_load;exact rfl;exact Ld_blk rfl QM rfl;exact rfl;exact rfl)|(apply GOl_to;(iterate 3 exact rfl);(first|(apply OpTo_store;(iterate 3 exact rfl);exact QR;(iterate 3 exact rfl);skip)|(apply OpTo_val;exact rfl;exact has26;exact hgm _;skip)|(apply OpTo_res;exact rfl;exact has15;exact hog _ (by first|exact Le.refl _|assumption|(repeat (first|assumption|(apply Le.trans;assumption))));rintro v1 h1 hle1 rfl;skip)|(apply OpTo_valF;exact rfl;exact rfl;exact has61;exact eff1_c _ g r d;skip)))|(apply GO_drawp (n:=5) [0,1,2,3,4] [(1,0),(2,0),(0,1),(3,0),(4,0)];kernel_rfl)|(apply GP_pv;exact rfl;kernel_rfl;(iterate 3 exact rfl))|(apply GP_loadB;exact rfl;kernel_rfl;(iterate 3 exact rfl);exact QM;exact rfl;exact rfl)|(apply GP_ov;exact rfl;kernel_rfl;exact rfl;exact rfl;(first|(apply OV_lookD (ek:=ekN) (ev:=effV) (z0:=none) (key:=r.kind) (b:=bm) (m:=effL) KN;(iterate 6 exact rfl);exact hlk));exact QA)|(apply GP_real;exact rfl;kernel_rfl;(iterate 3 exact rfl);(first|(apply OpTo_callP;exact rfl;exact has27;exact effects_c _;exact Takes_nil;rintro v7 E7 h7 hle7 ⟨bm,rfl,rfl⟩;refine ⟨hle7,QN,?_⟩)))|(apply GP_done;kernel_rfl;exact rfl)|(apply GO_cond;exact rfl;all_goals (intro hc;try simp only [hcS,reduceCtorEq] at hc;try (exfalso;omega))))
        all_goals first
          | (exfalso;omega)
          | (exfalso;simp at hc;done)
          | (exact GO_retRC2 rfl rfl rfl QM rfl rfl rfl rfl)
      · rw [if_neg (by omega),if_pos hk] at hlk
        rw [if_neg (by omega),if_neg (by omega)]
        repeat' (first|apply GO_seq|apply GO_skip|apply GO_region|apply GOl_nil|(apply GOl_to;(iterate 3 exact rfl);apply OpTo_box (e:=24);exact rfl;intro b3)|(apply GOl_to;(iterate 3 exact rfl);apply OpTo_alloc (e:=28);exact rfl;intro b4)|(apply GOl_to;(iterate 3 exact rfl);apply OpTo_alloc (e:=39);exact rfl;intro b6)|(apply GOl_pv;(iterate 3 exact rfl))|(apply GOl_load;exact rfl;exact Ld_blk rfl QM rfl;exact rfl;exact rfl)|(apply GOl_to;(iterate 3 exact rfl);(first|(apply OpTo_store;(iterate 3 exact rfl);exact QR;(iterate 3 exact rfl);skip)|(apply OpTo_val;exact rfl;exact has26;exact hgm _;skip)|(apply OpTo_res;exact rfl;exact has15;exact hog _ (by first|exact Le.refl _|assumption|(repeat (first|assumption|(apply Le.trans;assumption))));rintro v1 h1 hle1 rfl;skip)|(apply OpTo_valF;exact rfl;exact rfl;exact has63;exact eff2_c _ g r d;skip)))|(apply GO_drawp (n:=5) [0,1,2,3,4] [(1,0),(2,0),(0,1),(3,0),(4,0)];kernel_rfl)|(apply GP_pv;exact rfl;kernel_rfl;(iterate 3 exact rfl))|(apply GP_loadB;exact rfl;kernel_rfl;(iterate 3 exact rfl);exact QM;exact rfl;exact rfl)|(apply GP_ov;exact rfl;kernel_rfl;exact rfl;exact rfl;(first|(apply OV_lookD (ek:=ekN) (ev:=effV) (z0:=none) (key:=r.kind) (b:=bm) (m:=effL) KN;(iterate 6 exact rfl);exact hlk));exact QA)|(apply GP_real;exact rfl;kernel_rfl;(iterate 3 exact rfl);(first|(apply OpTo_callP;exact rfl;exact has27;exact effects_c _;exact Takes_nil;rintro v7 E7 h7 hle7 ⟨bm,rfl,rfl⟩;refine ⟨hle7,QN,?_⟩)))|(apply GP_done;kernel_rfl;exact rfl)|(apply GO_cond;exact rfl;all_goals (intro hc;try simp only [hcS,reduceCtorEq] at hc;try (exfalso;omega))))
        all_goals first
          | (exfalso;omega)
          | (exfalso;simp at hc;done)
          | (exact GO_retRC2 rfl rfl rfl QM rfl rfl rfl rfl)
      · rw [if_neg (by omega),if_neg (by omega),if_pos hk] at hlk
        rw [if_neg (by omega),if_pos hk]
        repeat' (first|apply GO_seq|apply GO_skip|apply GO_region|apply GOl_nil|(apply GOl_to;(iterate 3 exact rfl);apply OpTo_box (e:=24);exact rfl;intro b3)|(apply GOl_to;(iterate 3 exact rfl);apply OpTo_alloc (e:=28);exact rfl;intro b4)|(apply GOl_to;(iterate 3 exact rfl);apply OpTo_alloc (e:=39);exact rfl;intro b6)|(apply GOl_pv;(iterate 3 exact rfl))|(apply GOl_load;exact rfl;exact Ld_blk rfl QM rfl;exact rfl;exact rfl)|(apply GOl_to;(iterate 3 exact rfl);(first|(apply OpTo_store;(iterate 3 exact rfl);exact QR;(iterate 3 exact rfl);skip)|(apply OpTo_val;exact rfl;exact has26;exact hgm _;skip)|(apply OpTo_res;exact rfl;exact has15;exact hog _ (by first|exact Le.refl _|assumption|(repeat (first|assumption|(apply Le.trans;assumption))));rintro v1 h1 hle1 rfl;skip)|(apply OpTo_valF;exact rfl;exact rfl;exact has64;exact eff3_c _ g r d;skip)))|(apply GO_drawp (n:=5) [0,1,2,3,4] [(1,0),(2,0),(0,1),(3,0),(4,0)];kernel_rfl)|(apply GP_pv;exact rfl;kernel_rfl;(iterate 3 exact rfl))|(apply GP_loadB;exact rfl;kernel_rfl;(iterate 3 exact rfl);exact QM;exact rfl;exact rfl)|(apply GP_ov;exact rfl;kernel_rfl;exact rfl;exact rfl;(first|(apply OV_lookD (ek:=ekN) (ev:=effV) (z0:=none) (key:=r.kind) (b:=bm) (m:=effL) KN;(iterate 6 exact rfl);exact hlk));exact QA)|(apply GP_real;exact rfl;kernel_rfl;(iterate 3 exact rfl);(first|(apply OpTo_callP;exact rfl;exact has27;exact effects_c _;exact Takes_nil;rintro v7 E7 h7 hle7 ⟨bm,rfl,rfl⟩;refine ⟨hle7,QN,?_⟩)))|(apply GP_done;kernel_rfl;exact rfl)|(apply GO_cond;exact rfl;all_goals (intro hc;try simp only [hcS,reduceCtorEq] at hc;try (exfalso;omega))))
        all_goals first
          | (exfalso;omega)
          | (exfalso;simp at hc;done)
          | (exact GO_retRC2 rfl rfl rfl QM rfl rfl rfl rfl)
  · simp only [if_neg hg] at hgm
    rw [ofF_bad hg]
    clear hog hpl hsome
    repeat' (first|apply GO_seq|apply GO_region|apply GOl_nil|(apply GOl_pv;(iterate 3 exact rfl))|(apply GOl_load;exact rfl;exact Ld_blk rfl QM rfl;exact rfl;exact rfl)|(apply GOl_to;(iterate 3 exact rfl);(first|(apply OpTo_store;(iterate 3 exact rfl);exact QR;(iterate 3 exact rfl);skip)|(apply OpTo_box;exact rfl;intro b;skip)|(apply OpTo_alloc;exact rfl;intro b;skip)|(apply OpTo_val;exact rfl;exact has26;exact hgm _;skip)))|(apply GO_cond;exact rfl;all_goals (intro hc;try simp only [hcS,reduceCtorEq] at hc;try (exfalso;omega))))
    all_goals first
      | (exfalso;omega)
      | (exact GO_retRC2 rfl rfl rfl QM rfl rfl rfl rfl)
      | (exact GO_retR2 rfl rfl rfl rfl rfl)
end Go.Hw
set_option linter.unusedVariables false
set_option linter.unusedSimpArgs false
set_option maxRecDepth 100000
set_option maxHeartbeats 8000000
namespace Go.Hw
open Go
attribute [local irreducible] GO GOl GDp Val Fn Res CellsAt ValE Blk OwnS MapA OwnPf Has Yl SepA forceL decC memS suspC offL ofGame cardP ofF
open Go.Proofs (Tryz.prog)
def FRg (x : FGame) (u : List Value) (h : Ro) : Prop:=u = [gameV x]
def ReadC (h : Ro) (bl bs bc : Nat) (A : Option Addr) (n c : Nat) (s co : Int) : Prop:=CellsAt h ⟨bl,0,none⟩ [.slice A n c] ∧ CellsAt h ⟨bs,0,none⟩ [.int .i64 s] ∧ CellsAt h ⟨bc,0,none⟩ [.int .i64 co]
theorem ReadC.le {h h' : Ro} {bl bs bc : Nat} {A : Option Addr} {n c : Nat} {s co : Int} (r : ReadC h bl bs bc A n c s co) (hl : Le h h') : ReadC h' bl bs bc A n c s co:=⟨r.1.le hl,r.2.1.le hl,r.2.2.le hl⟩
theorem mentioned_c (h : Ro) (A : Option Addr) (n c : Nat) (s co : Int) : Res Tryz.prog 53 #[.slice A n c,.int .i64 s,.int .i64 co] h (fun u h' => ∃ bl bs bc,u = .func (.func 95) #[] #[.pointer (some ⟨bl,0,none⟩),.pointer (some ⟨bs,0,none⟩),.pointer (some ⟨bc,0,none⟩)] ∧ ReadC h' bl bs bc A n c s co):=by
  refine Res_intro (args:=[_,_,_]) ts_ok Go.Proofs.Tryz.func53 rfl rfl fun w0 X0 => ?_
  repeat' (first|apply GO_seq|apply GO_region|apply GOl_nil|(apply GOl_pv;(iterate 3 exact rfl))|(apply GOl_to;(iterate 3 exact rfl);(first|(apply OpTo_box;exact rfl;intro b;skip))))
  refine GO_relB (cs:=[.slice A n c]) QK ?_
  intro h1 hle1 hc1
  refine GO_relB (cs:=[.int .i64 s]) QK ?_
  intro h2 hle2 hc2
  refine GO_relB (cs:=[.int .i64 co]) QK ?_
  intro h3 hle3 hc3
  (first|(apply GO_retR1;(iterate 3 exact rfl)))
  exact ⟨_,_,_,rfl,hc1.le (hle2.trans hle3),hc2.le hle3,hc3⟩
theorem mentSeq (h : Ro) (A : Option Addr) (n c : Nat) (l : List (Fsh × Fct)) (hx : FactsAt h A n l) (s co : Int) (bl bs bc : Nat) (hb : ReadC h bl bs bc A n c s co) : SeqR Tryz.prog 95 [.pointer (some ⟨bl,0,none⟩),.pointer (some ⟨bs,0,none⟩),.pointer (some ⟨bc,0,none⟩)] FRg (mentL (fcs l) s co) h:=by
  intro lid I Ix mI mIx hround Es h1 hle h0
  refine Fn_intro (args:=[_,_,_,_]) ts_ok Go.Proofs.Tryz.func95 rfl rfl fun w0 X0 => ?_
  have hlen:=hx.row.len
  have hn:=hx.small
  obtain ⟨hb1,hb2,hb3⟩:=hb.le hle
  have hK:=KG
  repeat' (first|apply GO_seq|apply GO_block|apply GO_region|apply GOl_nil|(apply GOl_pv;(iterate 3 exact rfl))|(apply GOl_ov;exact rfl;exact rfl;(first|(apply OV_load;exact rfl;exact Lv_ro rfl hb1 rfl));exact QA)|(apply GOl_to;(iterate 3 exact rfl);(first|(apply OpTo_makeMap gameV Value.bool;intro bm;skip))))
  refine GO_while (X:=Nat × List Asn × Ro) (fun x => x.1 ≤ n ∧ Le h1 x.2.2 ∧ I (mentL (fcs (l.take x.1)) s co) x.2.1 x.2.2) (fun x => n - x.1) (fun x => [(12,.int .i64 x.1),(11,.int .i64 n),(10,.slice A n c),(5,.map (some bm)),(0,.func (.yield lid) #[] #[]),(2,.pointer (some ⟨bs,0,none⟩)),(3,.pointer (some ⟨bc,0,none⟩))])
    (fun x => MapA gameV Value.bool bm (metM (mentL (fcs (l.take x.1)) s co)) :: x.2.1) (fun x => x.2.2) (0,Es,h1) ⟨by omega,Le.refl _,h0⟩ QS rfl rfl ?_
  rintro ⟨k,Es1,hk⟩ ⟨hkn,hlk,hI⟩ ih
  dsimp only at hkn hlk hI ih ⊢
  have hl1 : Le h hk:=hle.trans hlk
  have hd2:=hb2.le hlk
  have hd3:=hb3.le hlk
  by_cases hkn2 : k < n
  · have a1:=hx.row.addrD hkn2
    have c1 : CellsAt hk ((addrD A).add (k * ty57.size)) (encF82 (l.getD k p0)):=(hx.row.cellsD p0 hkn2).le hl1
    have et:=take7 p0 (xs:=l) rfl (show k < l.length by omega)
    have hpre:=mentL_pre (fcs (l.take (k + 1))) (fcs (l.drop (k + 1))) s co
    have ef : fcs (l.take (k + 1)) ++ fcs (l.drop (k + 1)) = fcs l:=by
      unfold fcs
      rw [← List.map_append,List.take_append_drop]
    rw [ef] at hpre
    have es : fcs (l.take (k + 1)) = fcs (l.take k) ++ [(l.getD k p0).2]:=by rw [et,fcs_snoc]
    rw [es,mentL_snoc] at hpre
    have ih2:=fun Es2 h2 => ih (k + 1,Es2,h2)
    dsimp only at ih2
    rw [es,mentL_snoc] at ih2
    clear ef es et ih
    generalize l.getD k p0 = p at *
    have hyld:=fun pre post (e : mentL (fcs l) s co = pre ++ MentG p.2 :: post) => hround pre (MentG p.2) post [gameV (MentG p.2)] Es1 hk e hl1 rfl
    have hlk2:=metM_look (MentG p.2) (mentL (fcs (l.take k)) s co)
    have hin:=fun w => metM_ins (g:=MentG p.2) (o:=mentL (fcs (l.take k)) s co) w
    generalize mentL (fcs (l.take k)) s co = o at *
    unfold mentS at hpre ih2
    by_cases hy : (MentG p.2).s = s ∧ (MentG p.2).c = co ∧ MentG p.2 ∉ o
    · rw [if_pos hy] at hpre ih2
      obtain ⟨post,epo⟩:=hpre
      rw [List.append_assoc] at epo
      have hyl:=hyld o post epo hI
      rw [decide_eq_false hy.2.2] at hlk2
      have hin:=hin hy.2.2
      have hg1:=hy.1
      have hg2:=hy.2.1
      clear hyld hy
      unfold MentG at hyl ih2 hlk2 hin hg1 hg2 epo
      by_cases h4 : p.2.kind = 4
      · simp only [if_pos h4] at hyl ih2 hlk2 hin hg1 hg2 epo
        repeat' (first|apply GO_seq|apply GO_skip|apply GO_inBlock|apply GO_block|apply GO_region|apply GOl_nil|(apply GOl_add;(iterate 3 exact rfl);omega;exact rfl;exact rfl)|(apply GOl_pv;(iterate 3 exact rfl))|(apply GOl_load;exact rfl;exact Ld_blk rfl QM rfl;exact rfl;exact rfl)|(apply GOl_ov;exact rfl;exact rfl;(first|(apply OV_idxS (j:=k);(iterate 5 exact rfl);exact a1;(with_reducible exact rfl);omega)|(apply OV_load;exact rfl;exact Lv_ro rfl c1 rfl)|(apply OV_load;exact rfl;exact Lv_ro rfl hd2 rfl)|(apply OV_load;exact rfl;exact Lv_ro rfl hd3 rfl)|(apply OV_lookD (ek:=gameV) (ev:=Value.bool) (z0:=false) (key:=p.2.ru.g) (b:=bm) (m:=metM o) hK;(iterate 6 exact rfl);exact hlk2));exact QA)|(apply GOl_to;(iterate 3 exact rfl);(first|(apply OpTo_store;(iterate 3 exact rfl);exact QR;(iterate 3 exact rfl);skip)|(apply OpTo_alloc;exact rfl;intro b;skip)|(apply OpTo_mapUpdate (ek:=gameV) (ev:=Value.bool) (b:=bm) (m:=metM o) (key:=p.2.ru.g) (u:=true) hK;(iterate 6 exact rfl);exact QR;skip)|(refine OpTo_perm (List.perm_append_comm (l₁:=[_,_,_])) ?_;apply OpTo_yield (Es0:=Es1) (Fs:=[_,_,_]);(iterate 3 exact rfl);exact hyl;rintro v E2 h2 hle2 (⟨rfl,hP⟩|⟨rfl,hP⟩);all_goals skip)))|(apply GO_cond;exact rfl;all_goals (intro hc;try simp only [hcS,reduceCtorEq] at hc;try (exfalso;omega)))|(apply GOl_split;exact rfl;exact rfl;all_goals (intro hc;try simp only [hcS,reduceCtorEq] at hc;try (exfalso;omega))))
        all_goals first
          | (exfalso;omega)
          | (exfalso;simp at hc;done)
          | (have h3:=ih2 E2 h2 ⟨by omega,hlk.trans hle2,hP⟩ (by omega)
             rw [← hin] at h3
             refine GO_perm (List.perm_append_comm (l₁:=E2) (l₂:=[_,_,_])) (GO_drop .here (GO_drop .here ?_))
             exact GO_keep QS h3)
          | (refine GO_retS (rs:=[]) (vs:=[]) (Fs:=E2) rfl rfl trivial (List.sublist_append_left _ _) (.inr ⟨_,post,?_,hP⟩)
             rw [List.append_assoc];exact epo)
      · simp only [if_neg h4] at hyl ih2 hlk2 hin hg1 hg2 epo
        repeat' (first|apply GO_seq|apply GO_skip|apply GO_inBlock|apply GO_block|apply GO_region|apply GOl_nil|(apply GOl_add;(iterate 3 exact rfl);omega;exact rfl;exact rfl)|(apply GOl_pv;(iterate 3 exact rfl))|(apply GOl_load;exact rfl;exact Ld_blk rfl QM rfl;exact rfl;exact rfl)|(apply GOl_ov;exact rfl;exact rfl;(first|(apply OV_idxS (j:=k);(iterate 5 exact rfl);exact a1;(with_reducible exact rfl);omega)|(apply OV_load;exact rfl;exact Lv_ro rfl c1 rfl)|(apply OV_load;exact rfl;exact Lv_ro rfl hd2 rfl)|(apply OV_load;exact rfl;exact Lv_ro rfl hd3 rfl)|(apply OV_lookD (ek:=gameV) (ev:=Value.bool) (z0:=false) (key:=p.2.sh.g) (b:=bm) (m:=metM o) hK;(iterate 6 exact rfl);exact hlk2));exact QA)|(apply GOl_to;(iterate 3 exact rfl);(first|(apply OpTo_store;(iterate 3 exact rfl);exact QR;(iterate 3 exact rfl);skip)|(apply OpTo_alloc;exact rfl;intro b;skip)|(apply OpTo_mapUpdate (ek:=gameV) (ev:=Value.bool) (b:=bm) (m:=metM o) (key:=p.2.sh.g) (u:=true) hK;(iterate 6 exact rfl);exact QR;skip)|(refine OpTo_perm (List.perm_append_comm (l₁:=[_,_,_])) ?_;apply OpTo_yield (Es0:=Es1) (Fs:=[_,_,_]);(iterate 3 exact rfl);exact hyl;rintro v E2 h2 hle2 (⟨rfl,hP⟩|⟨rfl,hP⟩);all_goals skip)))|(apply GO_cond;exact rfl;all_goals (intro hc;try simp only [hcS,reduceCtorEq] at hc;try (exfalso;omega)))|(apply GOl_split;exact rfl;exact rfl;all_goals (intro hc;try simp only [hcS,reduceCtorEq] at hc;try (exfalso;omega))))
        all_goals first
          | (exfalso;omega)
          | (exfalso;simp at hc;done)
          | (have h3:=ih2 E2 h2 ⟨by omega,hlk.trans hle2,hP⟩ (by omega)
             rw [← hin] at h3
             refine GO_perm (List.perm_append_comm (l₁:=E2) (l₂:=[_,_,_])) (GO_drop .here (GO_drop .here ?_))
             exact GO_keep QS h3)
          | (refine GO_retS (rs:=[]) (vs:=[]) (Fs:=E2) rfl rfl trivial (List.sublist_append_left _ _) (.inr ⟨_,post,?_,hP⟩)
             rw [List.append_assoc];exact epo)
    · rw [if_neg hy] at ih2
      have hgo:=ih2 Es1 hk ⟨by omega,hlk,hI⟩ (by omega)
      clear hyld hpre hin ih2
      unfold MentG at hlk2 hy
      by_cases h4 : p.2.kind = 4
      · simp only [if_pos h4] at hlk2 hy
        by_cases hb : p.2.ru.g.s = s ∧ p.2.ru.g.c = co
        · rw [decide_eq_true (Classical.byContradiction fun w => hy ⟨hb.1,hb.2,w⟩)] at hlk2
          obtain ⟨hg1,hg2⟩:=hb
          repeat' (first|apply GO_seq|apply GO_skip|apply GO_block|apply GO_region|apply GOl_nil|(apply GO_exit;exact rfl)|(apply GOl_add;(iterate 3 exact rfl);omega;exact rfl;exact rfl)|(apply GOl_pv;(iterate 3 exact rfl))|(apply GOl_load;exact rfl;exact Ld_blk rfl QM rfl;exact rfl;exact rfl)|(apply GOl_ov;exact rfl;exact rfl;(first|(apply OV_idxS (j:=k);(iterate 5 exact rfl);exact a1;(with_reducible exact rfl);omega)|(apply OV_load;exact rfl;exact Lv_ro rfl c1 rfl)|(apply OV_load;exact rfl;exact Lv_ro rfl hd2 rfl)|(apply OV_load;exact rfl;exact Lv_ro rfl hd3 rfl)|(apply OV_lookD (ek:=gameV) (ev:=Value.bool) (z0:=false) (key:=p.2.ru.g) (b:=bm) (m:=metM o) hK;(iterate 6 exact rfl);exact hlk2));exact QA)|(apply GOl_to;(iterate 3 exact rfl);(first|(apply OpTo_store;(iterate 3 exact rfl);exact QR;(iterate 3 exact rfl);skip)|(apply OpTo_alloc;exact rfl;intro b;skip)))|(apply GO_cond;exact rfl;all_goals (intro hc;try simp only [hcS,reduceCtorEq] at hc;try (exfalso;omega)))|(apply GOl_split;exact rfl;exact rfl;all_goals (intro hc;try simp only [hcS,reduceCtorEq] at hc;try (exfalso;omega))))
          all_goals first
            | (exfalso;omega)
            | (exfalso;simp at hc;done)
            | (refine GO_drop .here (GO_drop .here ?_)
               exact GO_keep QS hgo)
        · repeat' (first|apply GO_seq|apply GO_skip|apply GO_block|apply GO_region|apply GOl_nil|(apply GO_exit;exact rfl)|(apply GOl_unwanted;exact rfl;exact rfl)|(apply GOl_add;(iterate 3 exact rfl);omega;exact rfl;exact rfl)|(apply GOl_pv;(iterate 3 exact rfl))|(apply GOl_load;exact rfl;exact Ld_blk rfl QM rfl;exact rfl;exact rfl)|(apply GOl_ov;exact rfl;exact rfl;(first|(apply OV_idxS (j:=k);(iterate 5 exact rfl);exact a1;(with_reducible exact rfl);omega)|(apply OV_load;exact rfl;exact Lv_ro rfl c1 rfl)|(apply OV_load;exact rfl;exact Lv_ro rfl hd2 rfl)|(apply OV_load;exact rfl;exact Lv_ro rfl hd3 rfl));exact QA)|(apply GOl_to;(iterate 3 exact rfl);(first|(apply OpTo_store;(iterate 3 exact rfl);exact QR;(iterate 3 exact rfl);skip)|(apply OpTo_alloc;exact rfl;intro b;skip)))|(apply GO_cond;exact rfl;all_goals (intro hc;try simp only [hcS,reduceCtorEq] at hc;try (exfalso;omega)))|(apply GOl_split;exact rfl;exact rfl;all_goals (intro hc;try simp only [hcS,reduceCtorEq] at hc;try (exfalso;omega))))
          all_goals first
            | (exfalso;omega)
            | (exfalso;simp at hc;done)
            | (refine GO_drop .here (GO_drop .here ?_)
               exact GO_keep QS hgo)
      · simp only [if_neg h4] at hlk2 hy
        by_cases hb : p.2.sh.g.s = s ∧ p.2.sh.g.c = co
        · rw [decide_eq_true (Classical.byContradiction fun w => hy ⟨hb.1,hb.2,w⟩)] at hlk2
          obtain ⟨hg1,hg2⟩:=hb
          repeat' (first|apply GO_seq|apply GO_skip|apply GO_block|apply GO_region|apply GOl_nil|(apply GO_exit;exact rfl)|(apply GOl_add;(iterate 3 exact rfl);omega;exact rfl;exact rfl)|(apply GOl_pv;(iterate 3 exact rfl))|(apply GOl_load;exact rfl;exact Ld_blk rfl QM rfl;exact rfl;exact rfl)|(apply GOl_ov;exact rfl;exact rfl;(first|(apply OV_idxS (j:=k);(iterate 5 exact rfl);exact a1;(with_reducible exact rfl);omega)|(apply OV_load;exact rfl;exact Lv_ro rfl c1 rfl)|(apply OV_load;exact rfl;exact Lv_ro rfl hd2 rfl)|(apply OV_load;exact rfl;exact Lv_ro rfl hd3 rfl)|(apply OV_lookD (ek:=gameV) (ev:=Value.bool) (z0:=false) (key:=p.2.sh.g) (b:=bm) (m:=metM o) hK;(iterate 6 exact rfl);exact hlk2));exact QA)|(apply GOl_to;(iterate 3 exact rfl);(first|(apply OpTo_store;(iterate 3 exact rfl);exact QR;(iterate 3 exact rfl);skip)|(apply OpTo_alloc;exact rfl;intro b;skip)))|(apply GO_cond;exact rfl;all_goals (intro hc;try simp only [hcS,reduceCtorEq] at hc;try (exfalso;omega)))|(apply GOl_split;exact rfl;exact rfl;all_goals (intro hc;try simp only [hcS,reduceCtorEq] at hc;try (exfalso;omega))))
          all_goals first
            | (exfalso;omega)
            | (exfalso;simp at hc;done)
            | (refine GO_drop .here (GO_drop .here ?_)
               exact GO_keep QS hgo)
        · repeat' (first|apply GO_seq|apply GO_skip|apply GO_block|apply GO_region|apply GOl_nil|(apply GO_exit;exact rfl)|(apply GOl_unwanted;exact rfl;exact rfl)|(apply GOl_add;(iterate 3 exact rfl);omega;exact rfl;exact rfl)|(apply GOl_pv;(iterate 3 exact rfl))|(apply GOl_load;exact rfl;exact Ld_blk rfl QM rfl;exact rfl;exact rfl)|(apply GOl_ov;exact rfl;exact rfl;(first|(apply OV_idxS (j:=k);(iterate 5 exact rfl);exact a1;(with_reducible exact rfl);omega)|(apply OV_load;exact rfl;exact Lv_ro rfl c1 rfl)|(apply OV_load;exact rfl;exact Lv_ro rfl hd2 rfl)|(apply OV_load;exact rfl;exact Lv_ro rfl hd3 rfl));exact QA)|(apply GOl_to;(iterate 3 exact rfl);(first|(apply OpTo_store;(iterate 3 exact rfl);exact QR;(iterate 3 exact rfl);skip)|(apply OpTo_alloc;exact rfl;intro b;skip)))|(apply GO_cond;exact rfl;all_goals (intro hc;try simp only [hcS,reduceCtorEq] at hc;try (exfalso;omega)))|(apply GOl_split;exact rfl;exact rfl;all_goals (intro hc;try simp only [hcS,reduceCtorEq] at hc;try (exfalso;omega))))
          all_goals first
            | (exfalso;omega)
            | (exfalso;simp at hc;done)
            | (refine GO_drop .here (GO_drop .here ?_)
               exact GO_keep QS hgo)
  · rw [List.take_of_length_le (by omega)] at hI
    repeat' (first|apply GO_seq|apply GO_region|apply GOl_nil|(apply GO_exit;exact rfl)|(apply GOl_pv;(iterate 3 exact rfl))|(apply GO_cond;exact rfl;all_goals (intro hc;try simp only [hcS,reduceCtorEq] at hc;try (exfalso;omega))))
    refine GO_drop .here ?_
    exact GO_end (rs:=[]) (vs:=[]) rfl rfl trivial (.inl hI)
end Go.Hw
set_option linter.unusedVariables false
set_option linter.unusedSimpArgs false
set_option maxRecDepth 100000
set_option maxHeartbeats 8000000
namespace Go.Hw
open Go
attribute [local irreducible] GO GOl GDp Val Fn Res CellsAt ValE Blk OwnS MapA OwnPf Has Yl SepA forceL decC memS suspC offL ofGame cardP ofF
open Go.Proofs (Tryz.prog)
def cmpR (a b : FRes) : Int:=orL [cmpI a.day b.day,cmpI a.g.h b.g.h,cmpI a.g.a b.g.a]
theorem cmpR_lt {a b : FRes} : cmpR a b < 0 ↔ LtR a b:=by
  unfold cmpR LtR
  simp only [orL_cons,show orL [] = 0 from rfl]
  unfold cmpI
  (repeat' split) <;> omega
theorem ltOfR (a b : FRes) : Go.Proofs.ltOf cmpR a b = decide (LtR a b):=by
  unfold Go.Proofs.ltOf;rw [decide_eq_decide];exact cmpR_lt
theorem swoR : Go.Sort.SWO (Go.Proofs.ltOf cmpR) where
  irrefl x:=by rw [ltOfR];exact decide_eq_false (LtR.irrefl x)
  trans x y z h1 h2:=by rw [ltOfR,decide_eq_true_eq] at *;exact LtR.trans _ _ _ h1 h2
  ntrans x y z h1 h2:=by rw [ltOfR,decide_eq_false_iff_not] at *;unfold LtR at *;omega
theorem allR1_c (h : Ro) (x y : FRes) : Res Tryz.prog 55 #[resV x,resV y] h (fun u _ => u = .int .i64 (cmpR x y)):=by
  refine Res_intro (args:=[_,_]) ts_ok Go.Proofs.Tryz.func55 rfl rfl fun w0 X0 => ?_
  unfold cmpR
  generalize hor : orL [cmpI x.day y.day,cmpI x.g.h y.g.h,cmpI x.g.a y.g.a] = o at *
  repeat' (first|apply GO_seq|apply GO_region|apply GOl_nil|(apply GOl_pv;(iterate 3 exact rfl))|(apply GOl_to;(iterate 3 exact rfl);(first|(apply OpTo_box;exact rfl;intro b;skip)))|(apply GO_drawp (n:=1) [0,1,2,3,4,5,6,7,8,9,10,11,12,13,14,15,16,17,18,19,20,21] [(0,0),(1,0),(2,0),(3,0),(5,0),(6,0),(7,0),(8,0),(9,0),(10,0),(12,0),(13,0),(14,0),(15,0),(16,0),(17,0),(4,1),(11,1),(18,1),(19,1),(20,1),(21,0)];kernel_rfl)|(apply GP_pv;exact rfl;kernel_rfl;(iterate 3 exact rfl))|(apply GP_loadB;exact rfl;kernel_rfl;(iterate 3 exact rfl);exact QM;exact rfl;exact rfl)|(apply GP_real;exact rfl;kernel_rfl;(iterate 3 exact rfl);(first|(apply OpTo_val;exact rfl;exact has57;exact cmpI7_c _ _ _;refine ⟨Le.refl _,QN,?_⟩)|(apply OpTo_buildSliceR (e:=3) (cs:=[cmpI x.day y.day,cmpI x.g.h y.g.h,cmpI x.g.a y.g.a].map fun i => .int .i64 i);(iterate 3 exact rfl);exact List.cons_ne_nil _ _;(iterate 4 exact rfl);intro b1 h1 hle1 hcs1;refine ⟨hle1,QN,?_⟩)|(apply OpTo_val;exact rfl;exact has56;(have hv7:=or7_c _ _ 3 3 [cmpI x.day y.day,cmpI x.g.h y.g.h,cmpI x.g.a y.g.a] (SlOf_ints hcs1) (by omega);rw [hor] at hv7;exact hv7);refine ⟨Le.refl _,QN,?_⟩)))|(apply GP_done;kernel_rfl;exact rfl)|(apply GO_retR1;(iterate 3 exact rfl)))
  all_goals rfl
theorem sortRe_c (h : Ro) (v : Value) (xs : List FRes) (n : Nat) (hn : n ≤ 1000000) (hx : xs.length = n) :
    Fn Tryz.prog 54 #[v,.func (.func 55) #[] #[]] [OwnS 28 13 v n (xs.flatMap resC)] h fun u Es _ => u = .tuple #[] ∧ ∃ ys : List FRes,ys.Perm xs ∧ (ys.Pairwise fun x y => ¬ LtR y x) ∧ Es = [OwnS 28 13 v n (ys.flatMap resC)]:=by
  have hN : ∀ (p : Option Addr) (cap : Nat) (w : World),Calls Tryz.prog 54 #[.slice p 0 cap,.func (.func 55) #[] #[]] w fun e w' => e = .returned (.tuple #[]) ∧ w' = w:=fun p cap w => Go.Proofs.AnyF.slices_SortFunc_none Go.Proofs.Tryz.sortResults p cap _ w
  have hC : ∀ (blk off cap : Nat) (d : Array FRes) (w : World),Go.Proofs.CmpLays Tryz.prog 55 #[] resC 13 cmpR blk off d.size w → Go.Sort.HoldsK resC 13 w blk off d → blk < w.heap.size → d.size < 4611686018427387904 →
      Calls Tryz.prog 54 #[.slice (some ⟨blk,off,none⟩) d.size cap,.func (.func 55) #[] #[]] w fun e w' => e = .returned (.tuple #[]) ∧ ∃ d' n os,Go.Sort.PermIn 0 d.size d d' ∧ Go.Sort.SortedIn (Go.Proofs.ltOf cmpR) 0 d.size d' ∧ w' = Go.Proofs.sortWorldK resC 13 w blk off n d' os:=fun blk off cap d w hc hH hb hs =>
    Go.Proofs.AnyQ.slices_SortFunc Go.Proofs.Tryz.sortResults 13 (fun w => ts_ok.run_agg (n:=28) rfl w) (fun w => ts_ok.run_size (n:=28) rfl w) resC (fun _ => rfl) (fun a => allOne_ok rfl) cmpR swoR 55 #[] blk off cap d w (Go.Proofs.enters_of Go.Proofs.Tryz.func55 (by kernel_rfl) rfl) hc hH hb hs
  have hcmp : ∀ x y : FRes,Res Tryz.prog 55 (#[resV x,resV y] ++ #[]) h fun u _ => u = .int .i64 (cmpR x y):=fun x y => by
    rw [Array.append_empty]
    exact allR1_c h x y
  have key:=sortFnP (α:=FRes) (P:=Tryz.prog) (f:=54) (gf:=55) (cb:=#[]) resC 13 (fun _ => rfl) (by decide) cmpR h hC hN hcmp 28 v xs n (by omega) hx
  refine key.mono ?_
  rintro u Es h' hle ⟨rfl,ys,hp,hso,rfl⟩
  refine ⟨rfl,ys,hp,hso.imp fun {a b} hab => ?_,rfl⟩
  rw [ltOfR,decide_eq_false_iff_not] at hab
  exact hab
theorem All_c (h : Ro) (hG : PowG h) (A : Option Addr) (n c : Nat) (l : List (Fsh × Fct)) (hx : FactsAt h A n l) (hn6 : n ≤ 65536) (s co : Int) : Res Tryz.prog 18 #[.slice A n c,.int .i64 s,.int .i64 co] h (fun u h' => ∃ A' c',u = .slice A' (allC (fcs l) s co).length c' ∧ (allC (fcs l) s co).length ≤ c' ∧ SlOf resC 13 h' A' (allC (fcs l) s co).length (allC (fcs l) s co)):=by
  refine Res_intro (args:=[_,_,_]) ts_ok Go.Proofs.Tryz.func18 rfl rfl fun w0 X0 => ?_
  have h32:=In32_factsX hx
  have hm:=mentL_spec (fcs l) s co
  have hmem:=resL_mem h32 (s:=s) (c:=co) (gs:=mentL (fcs l) s co) (fun g hg => ⟨((hm.2 g).1 hg).1,((hm.2 g).1 hg).2.1⟩) (fun f hf _ _ a b => (hm.2 _).2 ⟨a,b,f,hf,rfl⟩)
  have hnd:=resL_nodup h32 hm.1
  have hml : (mentL (fcs l) s co).length ≤ n:=by
    have h1:=mentL_len (fcs l) s co
    have h2:=hx.row.len
    unfold fcs at h1
    rw [List.length_map] at h1
    unfold fcs
    omega
  have hrl:=fun gs => resL_len (fcs l) gs
  repeat' (first|apply GO_seq|apply GO_block|apply GO_region|apply GOl_nil|(apply GOl_to;(iterate 3 exact rfl);apply OpTo_box (e:=22);exact rfl;intro b3)|(apply GOl_to;(iterate 3 exact rfl);apply OpTo_alloc (e:=66);exact rfl;intro b6)|(apply GOl_pv;(iterate 3 exact rfl))|(apply GOl_load;exact rfl;exact Ld_blk rfl QM rfl;exact rfl;exact rfl)|(apply GOl_to;(iterate 3 exact rfl);(first|(apply OpTo_res;exact rfl;exact has53;exact mentioned_c _ A n c s co;rintro vr h1 hle1 ⟨bl,bs,bc,rfl,hr⟩;skip))))
  refine GO_nilS 28 13 ?_
  refine GO_take (Es':=[Blk b6 66 [.slice none 0 0],OwnS 28 13 (.slice none 0 0) 0 [],Blk b3 22 [.slice A n c]]) QT ?_
  refine GO_rangeFuncR (R:=FRg) (xs:=mentL (fcs l) s co) (gf:=95) (lb:=[.pointer (some ⟨bl,0,none⟩),.pointer (some ⟨bs,0,none⟩),.pointer (some ⟨bc,0,none⟩)]) rfl rfl has95 (mentSeq _ A n c l (hx.le hle1) s co bl bs bc hr) (by rintro x u h2 rfl;rfl) rfl
    (fun pre Es h2 => ∃ (A' : Option Addr) (c' : Nat),Es = [Blk b6 66 [.slice A' (resL (fcs l) pre).length c'],OwnS 28 13 (.slice A' (resL (fcs l) pre).length c') (resL (fcs l) pre).length ((resL (fcs l) pre).flatMap resC),Blk b3 22 [.slice A n c]]) (fun _ _ _ _ => False)
    (fun pre Es h2 h3 hl e => e) (fun _ _ _ _ _ _ h => h.elim) ⟨none,0,rfl⟩ ?_ ?_ (fun _ _ _ _ _ _ _ _ h => h.elim)
  · rintro lid r0 w1 X1 pre x post u Es1 h2 hxe rfl ⟨A',c',rfl⟩ hle hst
    have hpl : pre.length + 1 ≤ (mentL (fcs l) s co).length:=by rw [hxe];simp
    have hpr:=hrl pre
    have hof:=fun h' (hl : Le h2 h') => Of12_c h' (hG.le (hle1.trans (hle.trans hl))) A n c l (hx.le (hle1.trans (hle.trans hl))) hn6 x
    have hsn:=resL_snoc (fcs l) pre x
    cases ho : ofF (fcs l) x with
    | none =>
      rw [ho] at hsn hof
      dsimp only at hsn
      repeat' (first|apply GO_seq|apply GO_skip|apply GO_inBlock|apply GO_block|apply GO_region|apply GOl_nil|(apply GO_begin;exact rfl;exact QK;exact hst)|(apply GOl_to;(iterate 3 exact rfl);apply OpTo_alloc (e:=24);exact rfl;intro b7)|(apply GOl_to;(iterate 3 exact rfl);apply OpTo_alloc (e:=28);exact rfl;intro b8)|(apply GOl_pv;(iterate 3 exact rfl))|(apply GOl_load;exact rfl;exact Ld_blk rfl QM rfl;exact rfl;exact rfl)|(apply GOl_to;(iterate 3 exact rfl);(first|(apply OpTo_store;(iterate 3 exact rfl);exact QR;(iterate 3 exact rfl);skip)|(apply OpTo_res;exact rfl;exact has10;exact hof _ (by first|exact Le.refl _|assumption|(repeat (first|assumption|(apply Le.trans;assumption))));rintro v2 h3 hle3 rfl;skip)))|(apply GO_cond;exact rfl;all_goals (intro hc;try simp only [hcS,reduceCtorEq] at hc;try (exfalso;omega))))
      all_goals (try (exfalso;simp at hc;done))
      all_goals
        refine GO_take (Es':=[LoopA lid { r0 with state:=.busy },Blk b6 66 [.slice A' (resL (fcs l) pre).length c'],OwnS 28 13 (.slice A' (resL (fcs l) pre).length c') (resL (fcs l) pre).length ((resL (fcs l) pre).flatMap resC),Blk b3 22 [.slice A n c]]) QT (GO_rEnd (r0:=r0) rfl .here ⟨A',c',?_⟩)
        rw [hsn]
    | some r =>
      rw [ho] at hsn hof
      dsimp only at hsn
      generalize resL (fcs l) pre = P at *
      repeat' (first|apply GO_seq|apply GO_skip|apply GO_inBlock|apply GO_block|apply GO_region|apply GOl_nil|(apply GO_begin;exact rfl;exact QK;exact hst)|(apply GOl_to;(iterate 3 exact rfl);apply OpTo_alloc (e:=24);exact rfl;intro b7)|(apply GOl_to;(iterate 3 exact rfl);apply OpTo_alloc (e:=28);exact rfl;intro b8)|(apply GOl_pv;(iterate 3 exact rfl))|(apply GOl_load;exact rfl;exact Ld_blk rfl QM rfl;exact rfl;exact rfl)|(apply GOl_to;(iterate 3 exact rfl);(first|(apply OpTo_store;(iterate 3 exact rfl);exact QR;(iterate 3 exact rfl);skip)|(apply OpTo_res;exact rfl;exact has10;exact hof _ (by first|exact Le.refl _|assumption|(repeat (first|assumption|(apply Le.trans;assumption))));rintro v2 h3 hle3 rfl;skip)|(apply OpTo_buildSliceS (enc:=resC) (n:=1) [r];(iterate 3 exact rfl);exact List.cons_ne_nil _ _;(iterate 4 exact rfl);exact resC_len;exact rfl;exact rfl;intro b5 h5 hle5 hs5;skip)|(apply OpTo_appendS (enc:=resC) (xs:=P) (ys:=[r]);(iterate 7 exact rfl);exact hs5;exact resC_len;exact resC_one;intro v1;exact QR;omega;exact rfl;intro A3 c3;skip)))|(apply GO_cond;exact rfl;all_goals (intro hc;try simp only [hcS,reduceCtorEq] at hc;try (exfalso;omega))))
      all_goals (try (exfalso;simp at hc;done))
      all_goals
        refine GO_take (Es':=[LoopA lid { r0 with state:=.busy },Blk b6 66 [.slice A3 (P.length + 1) c3],OwnS 28 13 (.slice A3 (P.length + 1) c3) (P.length + 1) ((P ++ [r]).flatMap resC),Blk b3 22 [.slice A n c]]) QT (GO_rEnd (r0:=r0) rfl .here ⟨A3,c3,?_⟩)
        rw [hsn,List.length_append];rfl
  · rintro D h2 Es1 hle ⟨A',c',rfl⟩
    have hpr:=hrl (mentL (fcs l) s co)
    generalize resL (fcs l) (mentL (fcs l) s co) = P at *
    repeat' (first|apply GO_seq|apply GO_inBlock|apply GO_region|apply GOl_nil|(apply GOl_load;exact rfl;exact Ld_blk rfl QM rfl;exact rfl;exact rfl)|(apply GOl_to;(iterate 3 exact rfl);(first|(apply OpTo_store;(iterate 3 exact rfl);exact QR;(iterate 3 exact rfl);skip)|(apply OpTo_callP;exact rfl;exact has54;exact sortRe_c _ _ P P.length (by omega) rfl;exact QT;rintro v3 Es3 h3 hle3 ⟨rfl,ys,hp,hso,rfl⟩;skip))))
    all_goals
      have hall:=allC_of (sorted_all hmem hnd hp hso)
      have hyl : ys.length = P.length:=hp.length_eq
      refine GO_relC (enc:=resC) (e:=28) (sz:=13) (n:=P.length) (xs:=ys) resC_len hyl QK ?_
      intro A7 c7 h7 hle7 e7 hnc7 hs7
      cases e7
      rw [← hyl] at hnc7 hs7
      refine GO_rt (Rt_mark rfl QK (Rt_S (rs:=[.cell 6 66]) (vs:=[.slice A' P.length c']) rfl rfl ⟨⟨_,rfl,Ld_blk rfl QM rfl⟩,trivial⟩ (List.nil_sublist _) ⟨rfl,A',c',?_,?_,?_⟩))
      · rw [← hall,hyl];rfl
      · rw [← hall];exact hnc7
      · rw [← hall];exact hs7
end Go.Hw

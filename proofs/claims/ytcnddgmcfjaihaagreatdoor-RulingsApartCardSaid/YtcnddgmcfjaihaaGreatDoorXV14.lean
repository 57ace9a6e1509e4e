import Derived.Test.YtcnddgmcfjaihaaGreatDoorVC
import Derived.Test.YtcnddgmcfjaihaaGreatDoorVD
import Derived.Test.YtcnddgmcfjaihaaGreatDoorVE
import Derived.Test.YtcnddgmcfjaihaaGreatDoorSB
import Derived.Test.YtcnddgmcfjaihaaGreatDoorEB
set_option linter.unusedVariables false
set_option linter.unusedSimpArgs false
set_option maxRecDepth 100000
set_option maxHeartbeats 8000000
namespace Go.Hw
open Go
attribute [local irreducible] GO GOl GDp Val Fn Res CellsAt ValE Blk OwnS MapA OwnPf Has Yl SepA forceL idF voidL
open Go.Proofs (Tryz.prog)
theorem few10_c (h : Ro) (A : Option Addr) (n c : Nat) (l : List (Fsh × Fct)) (hx : SlOf encF82 82 h A n l) (hn : n ≤ 9223372036854775807) : Val Tryz.prog 11 #[.slice A n c] h (.bool (decide ((∀ p ∈ l,SmallS p.1 p.2) ∧ (n : Int) ≤ 16))):=by
  refine Val_intro (args:=[_]) ts_ok Go.Proofs.Tryz.func11 rfl rfl fun w0 X0 => ?_
  repeat' (first|apply GO_seq|apply GO_region|apply GOl_nil|(apply GOl_pv;(iterate 3 exact rfl))|(apply GOl_to;(iterate 3 exact rfl);(first|(apply OpTo_val;exact rfl;exact has34;exact fewF_c _ A n c l hx hn 16;skip)))|(apply GO_retV1;(iterate 3 exact rfl)))
  all_goals rfl
theorem ruled_c (h : Ro) (k : Int) (r : FRul) : Val Tryz.prog 32 #[.int .i64 k,.agg (rulC r).toArray] h (factV fsh0 (rl7 k r)):=by
  refine Val_intro (args:=[_,_]) ts_ok Go.Proofs.Tryz.func32 rfl rfl fun w0 X0 => ?_
  repeat' (first|apply GO_seq|apply GO_region|apply GOl_nil|(apply GOl_pv;(iterate 3 exact rfl))|(apply GOl_load;exact rfl;exact Ld_blk rfl QM rfl;exact rfl;exact rfl)|(apply GOl_to;(iterate 3 exact rfl);(first|(apply OpTo_store;(iterate 3 exact rfl);exact QR;(iterate 3 exact rfl);skip)|(apply OpTo_box;exact rfl;intro b;skip)|(apply OpTo_alloc;exact rfl;intro b;skip)))|(apply GO_retC1;(iterate 3 exact rfl);exact QM;exact rfl;exact rfl))
  all_goals rfl
def exl (l : List Fct) : List (Fsh × Fct):=l.map fun f => (fsh0,f)
theorem exl_fcs (l : List Fct) : fcs (exl l) = l:=by unfold exl fcs;rw [List.map_map];exact List.map_id l
theorem plain_at (h : Ro) {f : Fct} (e : f.eClubs = [] ∧ f.sh.hs = [] ∧ f.sh.asn = [] ∧ f.sh.hc = [] ∧ f.sh.ac = [] ∧ f.lO = [] ∧ f.eRules = [] ∧ f.void = List.replicate 32 0) : FAt h fsh0 f ∧ FSm f:=by
  obtain ⟨e1,e2,e3,e4,e5,e6,e7,e8⟩:=e
  refine ⟨⟨⟨?_,?_,?_,?_⟩,?_,?_,?_,?_⟩,⟨⟨?_,?_,?_,?_⟩,?_,?_,?_⟩⟩
  all_goals (try simp only [e1,e2,e3,e4,e5,e6,e7,e8])
  all_goals first
    | exact SlOf.nil
    | exact Nat.zero_le _
    | exact Nat.le_refl _
    | exact List.length_replicate
    | (simp;done)
theorem exl_facts {h : Ro} {A : Option Addr} {n : Nat} {l : List Fct} (hs : SlOf encF82 82 h A n (exl l)) (hn : n ≤ 1000000) (hp : ∀ f ∈ l,∃ k r,f = rl7 k r ∨ f = xApp) : FactsAt h A n (exl l):=⟨hs,fun p hq => by
  unfold exl at hq
  obtain ⟨f,hf,rfl⟩:=List.mem_map.1 hq
  obtain ⟨k,r,e|e⟩:=hp f hf
  · rw [e];exact plain_at h ⟨rfl,rfl,rfl,rfl,rfl,rfl,rfl,rfl⟩
  · rw [e];exact plain_at h ⟨rfl,rfl,rfl,rfl,rfl,rfl,rfl,rfl⟩,hn⟩
theorem sane10_c (h : Ro) (hG : PowG h) : Val Tryz.prog 10 #[] h (.bool true):=by
  refine Val_intro (args:=[]) ts_ok Go.Proofs.Tryz.func10 rfl rfl fun w0 X0 => ?_
  have p1 : ∀ f ∈ [xFirst],∃ k r,f = rl7 k r ∨ f = xApp:=fun f hf => by simp at hf;exact ⟨_,_,.inl hf⟩
  have p2 : ∀ f ∈ [xFirst,xApp],∃ k r,f = rl7 k r ∨ f = xApp:=fun f hf => by
    simp at hf
    rcases hf with e|e
    · exact ⟨_,_,.inl e⟩
    · exact ⟨0,rul0,.inr e⟩
  have p3 : ∀ f ∈ [xApp,xFirst],∃ k r,f = rl7 k r ∨ f = xApp:=fun f hf => p2 f (by simp at hf ⊢;exact hf.symm)
  have p4 : ∀ f ∈ [xApp],∃ k r,f = rl7 k r ∨ f = xApp:=fun f hf => by simp at hf;exact ⟨0,rul0,.inr hf⟩
  have p5 : ∀ f ∈ [xFirst,xApp,xSecond],∃ k r,f = rl7 k r ∨ f = xApp:=fun f hf => by
    simp at hf
    rcases hf with e|e|e
    · exact ⟨_,_,.inl e⟩
    · exact ⟨0,rul0,.inr e⟩
    · exact ⟨_,_,.inl e⟩
  have p6 : ∀ f ∈ [xAgain,xFirst],∃ k r,f = rl7 k r ∨ f = xApp:=fun f hf => by
    simp at hf
    rcases hf with e|e
    · exact ⟨_,_,.inl e⟩
    · exact ⟨_,_,.inl e⟩
  have p7 : ∀ f ∈ [xB2,xB3],∃ k r,f = rl7 k r ∨ f = xApp:=fun f hf => by
    simp at hf
    rcases hf with e|e
    · exact ⟨_,_,.inl e⟩
    · exact ⟨_,_,.inl e⟩
  have cO : ∀ h',Le h h' → ∀ A,SlOf encF82 82 h' A 1 (exl [xFirst]) → Res Tryz.prog 23 #[.slice A 1 1,gameV xg] h' (fun u _ => ∃ r d,u = .tuple #[.agg (rulC r).toArray,.int .i64 d,.bool true]):=fun h' hl A hs =>
    (OfGame_c h' (hG.le hl) A 1 1 _ (exl_facts hs (by omega) p1) xg).mono fun u h2 _ e => by
      rw [exl_fcs,xs1,xo1] at e
      exact ⟨_,_,e⟩
  have cI3 : ∀ h',Le h h' → ∀ A,SlOf encF82 82 h' A 3 (exl [xFirst,xApp,xSecond]) → Res Tryz.prog 17 #[.slice A 3 3] h' (fun u h2 => ∃ A' c',u = .slice A' 1 c' ∧ SlOf rulC 17 h2 A' 1 [xSecond.ru]):=fun h' hl A hs =>
    (InForce_c h' (hG.le hl) A 3 3 _ (exl_facts hs (by omega) p5)).mono fun u h2 _ ⟨A',c',rl,e1,e2,e3,_⟩ => by
      rw [exl_fcs,xs5,xf5] at e3
      have e4 : rl = [xSecond.ru]:=e3
      subst e4
      exact ⟨A',c',e1,e2⟩
  have cI2 : ∀ h',Le h h' → ∀ A,SlOf encF82 82 h' A 2 (exl [xFirst,xApp]) → Res Tryz.prog 17 #[.slice A 2 2] h' (fun u h2 => ∃ A' c',u = .slice A' 0 c'):=fun h' hl A hs =>
    (InForce_c h' (hG.le hl) A 2 2 _ (exl_facts hs (by omega) p2)).mono fun u h2 _ ⟨A',c',rl,e1,e2,e3,_⟩ => by
      rw [exl_fcs,xs2,xf2] at e3
      have e4 : rl = []:=e3
      subst e4
      exact ⟨A',c',e1⟩
  have cS1 : ∀ h',Le h h' → ∀ A,SlOf encF82 82 h' A 2 (exl [xApp,xFirst]) → Res Tryz.prog 21 #[.slice A 2 2,.int .i64 1] h' (fun u _ => u = .bool true):=fun h' hl A hs =>
    (Suspended_c h' (hG.le hl) A 2 2 _ (exl_facts hs (by omega) p3) 1).mono fun u h2 _ e => by
      rw [exl_fcs,xs3,decide_eq_true xh3] at e
      exact e
  have cS0 : ∀ h',Le h h' → ∀ A,SlOf encF82 82 h' A 1 (exl [xApp]) → Res Tryz.prog 21 #[.slice A 1 1,.int .i64 1] h' (fun u _ => u = .bool false):=fun h' hl A hs =>
    (Suspended_c h' (hG.le hl) A 1 1 _ (exl_facts hs (by omega) p4) 1).mono fun u h2 _ e => by
      rw [exl_fcs,xs4,decide_eq_false xh4] at e
      exact e
  have cV : ∀ h',Le h h' → ∀ A,SlOf encF82 82 h' A 2 (exl [xAgain,xFirst]) → Res Tryz.prog 12 #[.slice A 2 2] h' (fun u h2 => ∃ A' c',u = .tuple #[.slice A' 1 c',.int .i64 0] ∧ SlOf voidC 32 h2 A' 1 [idF xAgain]):=fun h' hl A hs =>
    (Void_c h' (hG.le hl) A 2 2 _ (exl_facts hs (by omega) p6) (by omega)).mono fun u h2 _ ⟨A',c',ds,e1,e2,e3,_⟩ => by
      rw [exl_fcs,xs6,xv6] at e3
      have e4 : ds = [idF xAgain]:=e3
      subst e4
      exact ⟨A',c',e1,e2⟩
  have cB : ∀ h',Le h h' → ∀ A,SlOf encF82 82 h' A 2 (exl [xB2,xB3]) → Res Tryz.prog 28 #[.slice A 2 2,.int .i64 3] h' (fun u h2 => ∃ A' c',u = .slice A' 1 c' ∧ SlOf encV 2 h2 A' 1 [⟨3,9⟩]):=fun h' hl A hs =>
    (Bans_c h' (hG.le hl) A 2 2 _ (exl_facts hs (by omega) p7) 3).mono fun u h2 _ ⟨A',c',ul,e1,e2,e3,_⟩ => by
      rw [exl_fcs,xs7,xu7] at e3
      subst e3
      exact ⟨A',c',e1,e2⟩
  have cD : ∀ h',Le h h' → Res Tryz.prog 33 #[factV fsh0 xAgain] h' fun u _ => u = .tuple #[digV (idF xAgain),.int .i64 0]:=fun h' hl => by
    have hp:=plain_at h' (f:=xAgain) ⟨rfl,rfl,rfl,rfl,rfl,rfl,rfl,rfl⟩
    exact id2_c h' (hG.le hl) fsh0 xAgain hp.1 hp.2 xAgain_ok
  have r1 : ∀ h',Val Tryz.prog 32 #[.int .i64 1,.agg (rulC xFirst.ru).toArray] h' (factV fsh0 xFirst):=fun h' => ruled_c h' 1 xFirst.ru
  have r2 : ∀ h',Val Tryz.prog 32 #[.int .i64 3,.agg (rulC xSecond.ru).toArray] h' (factV fsh0 xSecond):=fun h' => ruled_c h' 3 xSecond.ru
  have r3 : ∀ h',Val Tryz.prog 32 #[.int .i64 4,.agg (rulC xAgain.ru).toArray] h' (factV fsh0 xAgain):=fun h' => ruled_c h' 4 xAgain.ru
  have r4 : ∀ h',Val Tryz.prog 32 #[.int .i64 1,.agg (rulC xB2.ru).toArray] h' (factV fsh0 xB2):=fun h' => ruled_c h' 1 xB2.ru
  have r5 : ∀ h',Val Tryz.prog 32 #[.int .i64 1,.agg (rulC xB3.ru).toArray] h' (factV fsh0 xB3):=fun h' => ruled_c h' 1 xB3.ru
  have hve:=void_eq (idF xAgain) (idF xAgain) (idF_len _) (idF_len _)
  rw [decide_eq_true rfl] at hve
  clear p1 p2 p3 p4 p5 p6 p7
  repeat' (first|apply GO_seq|apply GO_region|apply GOl_nil|(apply GOl_pv;(iterate 3 exact rfl))|(apply GOl_load;exact rfl;exact Ld_blk rfl QM rfl;exact rfl;exact rfl)|(apply GOl_to;(iterate 3 exact rfl);(first|(apply OpTo_store;(iterate 3 exact rfl);exact QR;(iterate 3 exact rfl);skip)|(apply OpTo_alloc;exact rfl;intro b;skip)|(apply OpTo_val;exact rfl;exact has32;(first|exact r1 _|exact r2 _|exact r3 _|exact r4 _|exact r5 _);skip)|(first|(apply OpTo_buildSliceS (enc:=encF82) (n:=1) (exl [xFirst]);(iterate 3 exact rfl);exact List.cons_ne_nil _ _;(iterate 4 exact rfl);exact encF82_len;exact rfl;exact rfl;intro bA hA hleA hsA;skip)|(apply OpTo_buildSliceS (enc:=encF82) (n:=3) (exl [xFirst,xApp,xSecond]);(iterate 3 exact rfl);exact List.cons_ne_nil _ _;(iterate 4 exact rfl);exact encF82_len;exact rfl;exact rfl;intro bB hB hleB hsB;skip)|(apply OpTo_buildSliceS (enc:=encF82) (n:=2) (exl [xAgain,xFirst]);(iterate 3 exact rfl);exact List.cons_ne_nil _ _;(iterate 4 exact rfl);exact encF82_len;exact rfl;exact rfl;intro bC hC hleC hsC;skip)|(apply OpTo_buildSliceS (enc:=encF82) (n:=2) (exl [xB2,xB3]);(iterate 3 exact rfl);exact List.cons_ne_nil _ _;(iterate 4 exact rfl);exact encF82_len;exact rfl;exact rfl;intro bD hD hleD hsD;skip)|(apply OpTo_buildSliceS (enc:=encF82) (n:=2) (exl [xFirst,xApp]);(iterate 3 exact rfl);exact List.cons_ne_nil _ _;(iterate 4 exact rfl);exact encF82_len;exact rfl;exact rfl;intro bE hE hleE hsE;skip)|(apply OpTo_buildSliceS (enc:=encF82) (n:=2) (exl [xApp,xFirst]);(iterate 3 exact rfl);exact List.cons_ne_nil _ _;(iterate 4 exact rfl);exact encF82_len;exact rfl;exact rfl;intro bF hF hleF hsF;skip)|(apply OpTo_buildSliceS (enc:=encF82) (n:=1) (exl [xApp]);(iterate 3 exact rfl);exact List.cons_ne_nil _ _;(iterate 4 exact rfl);exact encF82_len;exact rfl;exact rfl;intro bI hI hleI hsI;skip))|(apply OpTo_res;exact rfl;exact has23;exact cO _ (by first|exact Le.refl _|assumption|(repeat (first|assumption|(apply Le.trans;assumption)))) _ (hsA.le (by first|exact Le.refl _|assumption|(repeat (first|assumption|(apply Le.trans;assumption)))));rintro v1 h1 hle1 ⟨r1,d1,rfl⟩;skip)|(first|(apply OpTo_res;exact rfl;exact has17;exact cI2 _ (by first|exact Le.refl _|assumption|(repeat (first|assumption|(apply Le.trans;assumption)))) _ (hsE.le (by first|exact Le.refl _|assumption|(repeat (first|assumption|(apply Le.trans;assumption)))));rintro v9 h9 hle9 ⟨A9,c9,rfl⟩;skip)|(apply OpTo_res;exact rfl;exact has17;exact cI3 _ (by first|exact Le.refl _|assumption|(repeat (first|assumption|(apply Le.trans;assumption)))) _ (hsB.le (by first|exact Le.refl _|assumption|(repeat (first|assumption|(apply Le.trans;assumption)))));rintro v2 h2 hle2 ⟨A2,c2,rfl,hs2⟩;(have a2:=hs2.addrD (show 0 < 1 by omega));(have k2:=hs2.cellsD rul0 (show 0 < 1 by omega));skip))|(apply OpTo_res;exact rfl;exact has12;exact cV _ (by first|exact Le.refl _|assumption|(repeat (first|assumption|(apply Le.trans;assumption)))) _ (hsC.le (by first|exact Le.refl _|assumption|(repeat (first|assumption|(apply Le.trans;assumption)))));rintro v3 h3 hle3 ⟨A3,c3,rfl,hs3⟩;(have a3:=hs3.addrD (show 0 < 1 by omega));(have k3:=hs3.cellsD [] (show 0 < 1 by omega));skip)|(apply OpTo_res;exact rfl;exact has33;exact cD _ (by first|exact Le.refl _|assumption|(repeat (first|assumption|(apply Le.trans;assumption))));rintro v4 h4 hle4 rfl;skip)|(apply OpTo_res;exact rfl;exact has28;exact cB _ (by first|exact Le.refl _|assumption|(repeat (first|assumption|(apply Le.trans;assumption)))) _ (hsD.le (by first|exact Le.refl _|assumption|(repeat (first|assumption|(apply Le.trans;assumption)))));rintro v5 h5 hle5 ⟨A5,c5,rfl,hs5⟩;(have a5:=hs5.addrD (show 0 < 1 by omega));(have k5:=hs5.cellsD v0 (show 0 < 1 by omega));skip)))|(apply GO_drawp (n:=11) [0,1,2,3,4,5,6,7,8,9,10,11,12,13,14,15,16,17,18,19,20,21,22,23,24,25,26,27,28,29,30,31,32,33,34,35,36,37,38,39,40,41,42,43,44,45,46,47,48,49,50,51,52,53,54,55,56,57,58,59,60,61,62,63,64,65,66,67,68,69,70,71,72] [(0,0),(1,0),(2,0),(3,0),(4,1),(5,1),(6,0),(7,0),(8,0),(9,0),(10,0),(11,0),(12,1),(13,1),(14,0),(15,0),(16,0),(17,1),(18,1),(19,0),(20,0),(21,0),(22,0),(23,0),(24,0),(25,0),(26,0),(27,0),(28,0),(29,0),(30,0),(31,0),(32,0),(33,0),(34,0),(35,0),(36,0),(37,0),(38,0),(39,0),(40,0),(41,0),(42,0),(43,0),(44,0),(45,0),(46,0),(47,0),(48,0),(49,0),(50,0),(51,0),(52,0),(53,0),(54,0),(55,0),(56,0),(57,0),(58,0),(59,0),(60,0),(61,0),(62,0),(63,0),(64,0),(65,0),(66,0),(67,0),(68,0),(69,0),(70,0),(71,0),(72,0)];kernel_rfl)|(apply GP_un;exact rfl;kernel_rfl;exact rfl;exact rfl)|(apply GP_pv;exact rfl;kernel_rfl;(iterate 3 exact rfl))|(apply GP_loadB;exact rfl;kernel_rfl;(iterate 3 exact rfl);exact QM;exact rfl;exact rfl)|(apply GP_ov;exact rfl;kernel_rfl;exact rfl;exact rfl;(first|(first|(apply OV_idxS (j:=0);(iterate 5 exact rfl);exact a2;omega;omega)|(apply OV_idxS (j:=0);(iterate 5 exact rfl);exact a3;omega;omega)|(apply OV_idxS (j:=0);(iterate 5 exact rfl);exact a5;omega;omega))|(first|(apply OV_load;exact rfl;exact Lv_roF rfl (k2.le (by first|exact Le.refl _|assumption|(repeat (first|assumption|(apply Le.trans;assumption))))) rfl)|(apply OV_load;exact rfl;exact Lv_ro rfl (k3.le (by first|exact Le.refl _|assumption|(repeat (first|assumption|(apply Le.trans;assumption))))) rfl)|(apply OV_load;exact rfl;exact Lv_roF rfl (k5.le (by first|exact Le.refl _|assumption|(repeat (first|assumption|(apply Le.trans;assumption))))) rfl))|(apply OV_eqlV;exact rfl;exact rfl;exact hve;kernel_rfl;kernel_rfl));exact QA)|(apply GP_real;exact rfl;kernel_rfl;(iterate 3 exact rfl);(first|(first|(apply OpTo_buildSliceS (enc:=encF82) (n:=1) (exl [xFirst]);(iterate 3 exact rfl);exact List.cons_ne_nil _ _;(iterate 4 exact rfl);exact encF82_len;exact rfl;exact rfl;intro bA hA hleA hsA;refine ⟨hleA,QN,?_⟩)|(apply OpTo_buildSliceS (enc:=encF82) (n:=3) (exl [xFirst,xApp,xSecond]);(iterate 3 exact rfl);exact List.cons_ne_nil _ _;(iterate 4 exact rfl);exact encF82_len;exact rfl;exact rfl;intro bB hB hleB hsB;refine ⟨hleB,QN,?_⟩)|(apply OpTo_buildSliceS (enc:=encF82) (n:=2) (exl [xAgain,xFirst]);(iterate 3 exact rfl);exact List.cons_ne_nil _ _;(iterate 4 exact rfl);exact encF82_len;exact rfl;exact rfl;intro bC hC hleC hsC;refine ⟨hleC,QN,?_⟩)|(apply OpTo_buildSliceS (enc:=encF82) (n:=2) (exl [xB2,xB3]);(iterate 3 exact rfl);exact List.cons_ne_nil _ _;(iterate 4 exact rfl);exact encF82_len;exact rfl;exact rfl;intro bD hD hleD hsD;refine ⟨hleD,QN,?_⟩)|(apply OpTo_buildSliceS (enc:=encF82) (n:=2) (exl [xFirst,xApp]);(iterate 3 exact rfl);exact List.cons_ne_nil _ _;(iterate 4 exact rfl);exact encF82_len;exact rfl;exact rfl;intro bE hE hleE hsE;refine ⟨hleE,QN,?_⟩)|(apply OpTo_buildSliceS (enc:=encF82) (n:=2) (exl [xApp,xFirst]);(iterate 3 exact rfl);exact List.cons_ne_nil _ _;(iterate 4 exact rfl);exact encF82_len;exact rfl;exact rfl;intro bF hF hleF hsF;refine ⟨hleF,QN,?_⟩)|(apply OpTo_buildSliceS (enc:=encF82) (n:=1) (exl [xApp]);(iterate 3 exact rfl);exact List.cons_ne_nil _ _;(iterate 4 exact rfl);exact encF82_len;exact rfl;exact rfl;intro bI hI hleI hsI;refine ⟨hleI,QN,?_⟩))|(first|(apply OpTo_res;exact rfl;exact has17;exact cI2 _ (by first|exact Le.refl _|assumption|(repeat (first|assumption|(apply Le.trans;assumption)))) _ (hsE.le (by first|exact Le.refl _|assumption|(repeat (first|assumption|(apply Le.trans;assumption)))));rintro v9 h9 hle9 ⟨A9,c9,rfl⟩;refine ⟨hle9,QN,?_⟩)|(apply OpTo_res;exact rfl;exact has17;exact cI3 _ (by first|exact Le.refl _|assumption|(repeat (first|assumption|(apply Le.trans;assumption)))) _ (hsB.le (by first|exact Le.refl _|assumption|(repeat (first|assumption|(apply Le.trans;assumption)))));rintro v2 h2 hle2 ⟨A2,c2,rfl,hs2⟩;(have a2:=hs2.addrD (show 0 < 1 by omega));(have k2:=hs2.cellsD rul0 (show 0 < 1 by omega));refine ⟨hle2,QN,?_⟩))|(first|(apply OpTo_res;exact rfl;exact has21;exact cS0 _ (by first|exact Le.refl _|assumption|(repeat (first|assumption|(apply Le.trans;assumption)))) _ (hsI.le (by first|exact Le.refl _|assumption|(repeat (first|assumption|(apply Le.trans;assumption)))));rintro v6 h6 hle6 rfl;refine ⟨hle6,QN,?_⟩)|(apply OpTo_res;exact rfl;exact has21;exact cS1 _ (by first|exact Le.refl _|assumption|(repeat (first|assumption|(apply Le.trans;assumption)))) _ (hsF.le (by first|exact Le.refl _|assumption|(repeat (first|assumption|(apply Le.trans;assumption)))));rintro v7 h7 hle7 rfl;refine ⟨hle7,QN,?_⟩))))|(apply GP_done;kernel_rfl;exact rfl)|(apply GP_split;(iterate 5 exact rfl);all_goals (intro hc;try simp only [hcS,reduceCtorEq] at hc;try (exfalso;omega)))|(apply GO_retV1;(iterate 3 exact rfl)))
  all_goals first
    | rfl
    | (exfalso;exact hc rfl)
    | (simp [eqI_eq];done)
    | (exfalso;simp at hc;done)
end Go.Hw

import Derived.Test.YtphlhpbmkejbaabGreatDoorXC
import Derived.Test.YtphlhpbmkejbaabGreatDoorEB
set_option linter.unusedVariables false
set_option linter.unusedSimpArgs false
set_option maxRecDepth 100000
set_option maxHeartbeats 8000000
namespace Go.Hw
open Go
attribute [local irreducible] GO GOl GDp Val Fn Res CellsAt ValE Blk OwnS MapA OwnPf Has Yl SepA forceL
open Go.Proofs (Tryz.prog)
theorem susp_ext {a b : FSusp} : a = b ↔ a.p = b.p ∧ a.club = b.club ∧ a.g.s = b.g.s ∧ a.g.c = b.g.c ∧ a.g.h = b.g.h ∧ a.g.a = b.g.a:=by
  rcases a with ⟨a1,a2,a3,a4,a5,a6⟩
  rcases b with ⟨b1,b2,b3,b4,b5,b6⟩
  simp
theorem susp_eq (a b : FSusp) : eqD ts 10 30 (.agg (encSu a).toArray) (.agg (encSu b).toArray) = some (decide (a = b)):=by
  have e : eqD ts 10 30 (.agg (encSu a).toArray) (.agg (encSu b).toArray) = some (eqI a.p b.p && (eqI a.club b.club && ((eqI a.g.s b.g.s && (eqI a.g.c b.g.c && (eqI a.g.h b.g.h && (eqI a.g.a b.g.a && true)))) && true))):=rfl
  rw [e];congr 1;refine dec_of ?_;rw [susp_ext];simp only [Bool.and_eq_true,eqI_t,and_true]
end Go.Hw
set_option linter.unusedVariables false
set_option linter.unusedSimpArgs false
set_option maxRecDepth 100000
set_option maxHeartbeats 8000000
namespace Go.Hw
open Go
attribute [local irreducible] GO GOl GDp Val Fn Res CellsAt ValE Blk OwnS MapA OwnPf Has Yl SepA forceL decC memS suspC suspN suspOne yelC cardsF nextC regF offS unfitL
open Go.Proofs (Tryz.prog)
theorem game11_c (h : Ro) (x y : Int) : Val Tryz.prog 13 #[.int .i64 x,.int .i64 y] h (gameV ⟨1,2,x,y⟩):=by
  refine Val_intro (args:=[_,_]) ts_ok Go.Proofs.Tryz.func13 rfl rfl fun w0 X0 => ?_
  repeat' (first|apply GO_seq|apply GO_region|apply GOl_nil|(apply GOl_pv;(iterate 3 exact rfl))|(apply GOl_to;(iterate 3 exact rfl);(first|(apply OpTo_store;(iterate 3 exact rfl);exact QR;(iterate 3 exact rfl);skip)|(apply OpTo_alloc;exact rfl;intro b;skip)))|(apply GO_retC1;(iterate 3 exact rfl);exact QM;exact rfl;exact rfl))
  all_goals rfl
theorem moved11_c (h : Ro) (d p t : Int) : Val Tryz.prog 10 #[.int .i64 d,.int .i64 p,.int .i64 t] h (factV fsh0 (mvX d p t)):=by
  refine Val_intro (args:=[_,_,_]) ts_ok Go.Proofs.Tryz.func10 rfl rfl fun w0 X0 => ?_
  repeat' (first|apply GO_seq|apply GO_region|apply GOl_nil|(apply GOl_pv;(iterate 3 exact rfl))|(apply GOl_to;(iterate 3 exact rfl);(first|(apply OpTo_store;(iterate 3 exact rfl);exact QR;(iterate 3 exact rfl);skip)|(apply OpTo_alloc;exact rfl;intro b;skip)))|(apply GO_retC1;(iterate 3 exact rfl);exact QM;exact rfl;exact rfl))
  all_goals rfl
theorem shX_at {h : Ro} {s : Fsh} {a d : Int} {red : Bool} {r : Int} (h1 : ShAt h s (shX a d red r).sh) (h2 : s.cl = sli0) (h3 : s.lo = sli0) : FAt h s (shX a d red r) ∧ FSm (shX a d red r):=by
  refine ⟨⟨h1,?_,?_,rfl,?_⟩,⟨?_,?_,?_,?_⟩,Nat.zero_le _,Nat.zero_le _,Nat.zero_le _⟩
  · rw [h2];exact SlOf.nil
  · rw [h3];exact SlOf.nil
  · rw [h3];exact Nat.le_refl _
  · show ([10] : List Int).length ≤ _;decide
  · show ([20] : List Int).length ≤ _;decide
  · cases red
    · exact Nat.zero_le _
    · show ([⟨10,true⟩] : List FCard).length ≤ _;decide
  · exact Nat.zero_le _
def Agr2 (h : Ro) (s : Fsh) (a d : Int) (red : Bool) : Prop:=(FAt h s (shX a d red 0) ∧ FSm (shX a d red 0)) ∧ FAt h s (shX a d red 1) ∧ FSm (shX a d red 1)
theorem Agr2.le {h h' : Ro} {s : Fsh} {a d : Int} {red : Bool} (g : Agr2 h s a d red) (hl : Le h h') : Agr2 h' s a d red:=⟨⟨g.1.1.le hl,g.1.2⟩,g.2.1.le hl,g.2.2⟩
def AgrOut (h : Ro) (u : Value) (a d : Int) (red : Bool) : Prop:=∃ A s,u = .slice A 2 2 ∧ SlOf encF82 82 h A 2 [(s,shX a d red 0),(s,shX a d red 1)] ∧ Agr2 h s a d red
theorem agreed11_c (h : Ro) (a d : Int) (red : Bool) : Res Tryz.prog 12 #[gameV ⟨1,2,3,a⟩,.int .i64 d,.int .i64 0,.bool red] h (fun u h' => AgrOut h' u a d red):=by
  refine Res_intro (args:=[_,_,_,_]) ts_ok Go.Proofs.Tryz.func12 rfl rfl fun w0 X0 => ?_
  repeat' (first|apply GO_seq|apply GO_block|apply GO_region|apply GOl_nil|(apply GOl_to;(iterate 3 exact rfl);apply OpTo_box (e:=28);exact rfl;intro b4)|(apply GOl_to;(iterate 3 exact rfl);apply OpTo_alloc (e:=34);exact rfl;intro b9)|(apply GOl_pv;(iterate 3 exact rfl))|(apply GOl_load;exact rfl;exact Ld_blk rfl QM rfl;exact rfl;exact rfl)|(apply GOl_to;(iterate 3 exact rfl);(first|(apply OpTo_store;(iterate 3 exact rfl);exact QR;(iterate 3 exact rfl);skip)|(apply OpTo_buildSliceS (enc:=encI) (n:=1) [10];(iterate 3 exact rfl);exact List.cons_ne_nil _ _;(iterate 4 exact rfl);exact fun _ => rfl;exact rfl;exact rfl;intro b1 h1 hle1 hs1;skip)|(apply OpTo_buildSliceS (enc:=encI) (n:=1) [20];(iterate 3 exact rfl);exact List.cons_ne_nil _ _;(iterate 4 exact rfl);exact fun _ => rfl;exact rfl;exact rfl;intro b2 h2 hle2 hs2;skip))))
  refine GO_loop ?_
  cases red
  · repeat' (first|apply GO_seq|apply GO_skip|apply GO_region|apply GOl_nil|(apply GO_exit;exact rfl)|(apply GOl_to;(iterate 3 exact rfl);apply OpTo_alloc (e:=34);exact rfl;intro b10)|(apply GOl_pv;(iterate 3 exact rfl))|(apply GOl_load;exact rfl;exact Ld_blk rfl QM rfl;exact rfl;exact rfl)|(apply GOl_to;(iterate 3 exact rfl);(first|(apply OpTo_store;(iterate 3 exact rfl);exact QR;(iterate 3 exact rfl);skip)|(apply OpTo_buildSliceS (enc:=encF82) (n:=2) [(⟨sli0,⟨some ⟨b1,0,none⟩,1,1⟩,⟨some ⟨b2,0,none⟩,1,1⟩,sli0,sli0,sli0⟩,shX a d false 0),(⟨sli0,⟨some ⟨b1,0,none⟩,1,1⟩,⟨some ⟨b2,0,none⟩,1,1⟩,sli0,sli0,sli0⟩,shX a d false 1)];(iterate 3 exact rfl);exact List.cons_ne_nil _ _;(iterate 4 exact rfl);exact encF82_len;exact rfl;exact rfl;intro b5 h5 hle5 hs5;skip)))|(apply GO_cond;exact rfl;all_goals (intro hc;try simp only [hcS,reduceCtorEq] at hc;try (exfalso;omega))))
    all_goals first
      | (exfalso;omega)
      | (refine GO_retR1 rfl rfl rfl ⟨_,_,rfl,hs5,shX_at ⟨(hs1.le (hle2.trans hle5)),hs2.le hle5,SlOf.nil,SlOf.nil⟩ rfl rfl,shX_at ⟨(hs1.le (hle2.trans hle5)),hs2.le hle5,SlOf.nil,SlOf.nil⟩ rfl rfl⟩)
  · repeat' (first|apply GO_seq|apply GO_region|apply GOl_nil|(apply GO_exit;exact rfl)|(apply GOl_to;(iterate 3 exact rfl);apply OpTo_alloc (e:=34);exact rfl;intro b10)|(apply GOl_pv;(iterate 3 exact rfl))|(apply GOl_load;exact rfl;exact Ld_blk rfl QM rfl;exact rfl;exact rfl)|(apply GOl_to;(iterate 3 exact rfl);(first|(apply OpTo_store;(iterate 3 exact rfl);exact QR;(iterate 3 exact rfl);skip)|(apply OpTo_buildSliceS (enc:=encC) (n:=1) [⟨10,true⟩];(iterate 3 exact rfl);exact List.cons_ne_nil _ _;(iterate 4 exact rfl);exact fun _ => rfl;exact rfl;exact rfl;intro b3 h3 hle3 hs3;skip)|(apply OpTo_appendFR (enc:=encC) (n:=0) (cx:=0) (A:=none) (xs:=[]) (ys:=[⟨10,true⟩]);(iterate 7 exact rfl);exact SlOf.nil;exact hs3;exact rfl;omega;exact fun _ => rfl;omega;exact rfl;intro A6 c6 h6 hle6 hnc6 hs6;skip)|(apply OpTo_buildSliceS (enc:=encF82) (n:=2) [(⟨sli0,⟨some ⟨b1,0,none⟩,1,1⟩,⟨some ⟨b2,0,none⟩,1,1⟩,⟨A6,1,c6⟩,sli0,sli0⟩,shX a d true 0),(⟨sli0,⟨some ⟨b1,0,none⟩,1,1⟩,⟨some ⟨b2,0,none⟩,1,1⟩,⟨A6,1,c6⟩,sli0,sli0⟩,shX a d true 1)];(iterate 3 exact rfl);exact List.cons_ne_nil _ _;(iterate 4 exact rfl);exact encF82_len;exact rfl;exact rfl;intro b5 h5 hle5 hs5;skip)))|(apply GO_cond;exact rfl;all_goals (intro hc;try simp only [hcS,reduceCtorEq] at hc;try (exfalso;omega))))
    all_goals first
      | (exfalso;omega)
      | (refine GO_retR1 rfl rfl rfl ⟨_,_,rfl,hs5,shX_at ⟨(hs1.le (hle2.trans (hle3.trans (hle6.trans hle5)))),hs2.le (hle3.trans (hle6.trans hle5)),hs6.le hle5,SlOf.nil⟩ rfl rfl,shX_at ⟨(hs1.le (hle2.trans (hle3.trans (hle6.trans hle5)))),hs2.le (hle3.trans (hle6.trans hle5)),hs6.le hle5,SlOf.nil⟩ rfl rfl⟩)
theorem mvX_at (h : Ro) (d p t : Int) : FAt h fsh0 (mvX d p t) ∧ FSm (mvX d p t):=⟨⟨⟨SlOf.nil,SlOf.nil,SlOf.nil,SlOf.nil⟩,SlOf.nil,SlOf.nil,rfl,Nat.le_refl _⟩,⟨Nat.zero_le _,Nat.zero_le _,Nat.zero_le _,Nat.zero_le _⟩,Nat.zero_le _,Nat.zero_le _,Nat.zero_le _⟩
def lX2 : List (Fsh × Fct):=[(fsh0,mvX 10 7 3),(fsh0,mvX 20 7 (-1))]
theorem lX2_facts {h : Ro} {A : Option Addr} (hs : SlOf encF82 82 h A 2 lX2) : FactsAt h A 2 lX2:=⟨hs,fun p hp => by
  unfold lX2 at hp
  rcases List.mem_cons.1 hp with rfl|hp
  · exact mvX_at _ _ _ _
  · rw [List.mem_singleton] at hp;subst hp;exact mvX_at _ _ _ _,by omega⟩
def lY2 (s1 s2 s3 : Fsh) : List (Fsh × Fct):=[(s1,shX 5 100 true 0),(s1,shX 5 100 true 1)] ++ [(s2,shX 8 107 false 0),(s2,shX 8 107 false 1)] ++ [(s3,shX 13 114 false 0),(s3,shX 13 114 false 1)]
theorem lY2_fcs (s1 s2 s3 : Fsh) : fcs (lY2 s1 s2 s3) = lY:=rfl
theorem lY2_facts {h : Ro} {A : Option Addr} {s1 s2 s3 : Fsh} (hs : SlOf encF82 82 h A 6 (lY2 s1 s2 s3)) (g1 : Agr2 h s1 5 100 true) (g2 : Agr2 h s2 8 107 false) (g3 : Agr2 h s3 13 114 false) : FactsAt h A 6 (lY2 s1 s2 s3):=⟨hs,fun p hp => by
  unfold lY2 at hp
  simp only [List.cons_append,List.nil_append,List.mem_cons,List.not_mem_nil,or_false] at hp
  rcases hp with rfl|rfl|rfl|rfl|rfl|rfl
  · exact g1.1
  · exact g1.2
  · exact g2.1
  · exact g2.2
  · exact g3.1
  · exact g3.2,by omega⟩
def suX : FSusp:=⟨10,3,⟨1,2,3,8⟩⟩
theorem sane11_c (h : Ro) (hG : PowG h) : Val Tryz.prog 4 #[] h (.bool true):=by
  refine Val_intro (args:=[]) ts_ok Go.Proofs.Tryz.func4 rfl rfl fun w0 X0 => ?_
  have cR19 : ∀ h',Le h h' → ∀ A,SlOf encF82 82 h' A 2 lX2 → Res Tryz.prog 11 #[.slice A 2 2,.int .i64 7,.int .i64 19] h' (fun u _ => u = .tuple #[.int .i64 3,.bool true]):=fun h' hl A hs =>
    (registered2_c h' (hG.le hl) A 2 2 lX2 (lX2_facts hs) 7 19).mono fun u h2 _ e => by
      rw [e];unfold regV;rw [show regF (fcs lX2) 7 19 = mvX 10 7 3 from lX_19];rfl
  have cR20 : ∀ h',Le h h' → ∀ A,SlOf encF82 82 h' A 2 lX2 → Res Tryz.prog 11 #[.slice A 2 2,.int .i64 7,.int .i64 20] h' (fun u _ => u = .tuple #[.int .i64 0,.bool false]):=fun h' hl A hs =>
    (registered2_c h' (hG.le hl) A 2 2 lX2 (lX2_facts hs) 7 20).mono fun u h2 _ e => by
      rw [e];unfold regV;rw [show regF (fcs lX2) 7 20 = mvX 20 7 (-1) from lX_20];rfl
  have cR0 : ∀ h',Le h h' → Res Tryz.prog 11 #[.slice none 0 0,.int .i64 1,.int .i64 1] h' (fun u _ => u = .tuple #[.int .i64 0,.bool false]):=fun h' hl =>
    (registered2_c h' (hG.le hl) none 0 0 [] (FactsAt.nil h') 1 1).mono fun u h2 _ e => by
      rw [e];unfold regV;rw [show regF (fcs []) 1 1 = lastZ from lX_nil 1 1];rfl
  have cU : ∀ h',Le h h' → Res Tryz.prog 15 #[.slice none 0 0,.int .i64 1,.int .i64 1] h' (fun u _ => u = .bool false):=fun h' hl =>
    (Unfit_c h' (hG.le hl) none 0 0 [] (FactsAt.nil h') 1 1).mono fun u h2 _ e => by
      rw [e]
      have:=unfit_no4 (L:=fcs []) (fun f hf => by cases hf) (fun f hf => by cases hf) 1 1
      rw [this]
  have cS : ∀ h',Le h h' → ∀ A c s1 s2 s3,FactsAt h' A 6 (lY2 s1 s2 s3) → Res Tryz.prog 6 #[.slice A 6 c,.int .i64 1,.int .i64 2] h' (fun u h2 => ∃ A' c',u = .slice A' 1 c' ∧ SlOf encSu 6 h2 A' 1 [suX]):=fun h' hl A c s1 s2 s3 hf =>
    (Suspensions_c h' (hG.le hl) A 6 c _ hf (by omega) 1 2).mono fun u h2 _ ⟨A',c',e,hs,_⟩ => by
      rw [lY2_fcs,dX_susp] at e hs
      exact ⟨A',c',e,hs⟩
  have cO8 : ∀ h',Le h h' → ∀ A c s1 s2 s3,FactsAt h' A 6 (lY2 s1 s2 s3) → Res Tryz.prog 14 #[.slice A 6 c,gameV ⟨1,2,3,8⟩] h' (fun u h2 => OffOut h2 u ([10],[])):=fun h' hl A c s1 s2 s3 hf =>
    (Offenders_c h' (hG.le hl) A 6 c _ hf (by omega) ⟨1,2,3,8⟩).mono fun u h2 _ e => by
      rw [lY2_fcs,offY 8 107 false lY_8] at e
      exact e
  have cO13 : ∀ h',Le h h' → ∀ A c s1 s2 s3,FactsAt h' A 6 (lY2 s1 s2 s3) → Res Tryz.prog 14 #[.slice A 6 c,gameV ⟨1,2,3,13⟩] h' (fun u h2 => OffOut h2 u ([],[])):=fun h' hl A c s1 s2 s3 hf =>
    (Offenders_c h' (hG.le hl) A 6 c _ hf (by omega) ⟨1,2,3,13⟩).mono fun u h2 _ e => by
      rw [lY2_fcs,offY 13 114 false lY_13] at e
      exact e
  have hre:=susp_eq suX suX
  rw [decide_eq_true rfl] at hre
  repeat' (first|apply GO_seq|apply GO_region|apply GOl_nil|(apply GOl_unwanted;exact rfl;exact rfl)|(apply GOl_pv;(iterate 3 exact rfl))|(apply GOl_ov;exact rfl;exact rfl;(first|(apply OV_idxS (j:=0) (n:=1) (A:=B1);(iterate 5 exact rfl);exact aO;omega;omega)|(apply OV_load;exact rfl;apply Lv_ro;exact rfl;exact (kO.le (by first|exact Le.refl _|assumption|(repeat (first|assumption|(apply Le.trans;assumption)))));exact rfl));exact QA)|(apply GOl_to;(iterate 3 exact rfl);(first|(apply OpTo_val;exact rfl;exact has10;(first|exact moved11_c _ 10 7 3|exact moved11_c _ 20 7 (-1));skip)|(apply OpTo_buildSliceS (enc:=encF82) (n:=2) lX2;(iterate 3 exact rfl);exact List.cons_ne_nil _ _;(iterate 4 exact rfl);exact encF82_len;exact rfl;exact rfl;intro bA hA hleA hsA;skip)|(apply OpTo_res;exact rfl;exact has11;exact cR19 _ (by first|exact Le.refl _|assumption|(repeat (first|assumption|(apply Le.trans;assumption)))) _ (hsA.le (by first|exact Le.refl _|assumption|(repeat (first|assumption|(apply Le.trans;assumption)))));rintro v1 h1 hle1 rfl;skip)|(apply OpTo_res;exact rfl;exact has11;exact cR20 _ (by first|exact Le.refl _|assumption|(repeat (first|assumption|(apply Le.trans;assumption)))) _ (hsA.le (by first|exact Le.refl _|assumption|(repeat (first|assumption|(apply Le.trans;assumption)))));rintro v2 h2 hle2 rfl;skip)|(apply OpTo_res;exact rfl;exact has11;exact cR0 _ (by first|exact Le.refl _|assumption|(repeat (first|assumption|(apply Le.trans;assumption))));rintro v3 h3 hle3 rfl;skip)|(apply OpTo_val;exact rfl;exact has13;(first|exact game11_c _ 3 5|exact game11_c _ 3 8|exact game11_c _ 3 13);skip)|(apply OpTo_res;exact rfl;exact has12;exact agreed11_c _ 5 100 true;rintro v4 h4 hle4 ⟨A4,s4,rfl,hs4,hg4⟩;skip)|(apply OpTo_res;exact rfl;exact has12;exact agreed11_c _ 8 107 false;rintro v5 h5 hle5 ⟨A5,s5,rfl,hs5,hg5⟩;skip)|(apply OpTo_appendF (enc:=encF82) (n:=2) (cx:=2) (A:=A4) (xs:=[(s4,shX 5 100 true 0),(s4,shX 5 100 true 1)]) (ys:=[(s5,shX 8 107 false 0),(s5,shX 8 107 false 1)]);(iterate 7 exact rfl);exact hs4.le (by first|exact Le.refl _|assumption|(repeat (first|assumption|(apply Le.trans;assumption))));exact hs5.le (by first|exact Le.refl _|assumption|(repeat (first|assumption|(apply Le.trans;assumption))));exact rfl;omega;exact encF82_len;omega;exact rfl;intro A6 c6;skip)|(apply OpTo_res;exact rfl;exact has12;exact agreed11_c _ 13 114 false;rintro v7 h7 hle7 ⟨A7,s7,rfl,hs7,hg7⟩;skip)|(apply OpTo_appendSR (enc:=encF82) (n:=4) (xs:=[(s4,shX 5 100 true 0),(s4,shX 5 100 true 1)] ++ [(s5,shX 8 107 false 0),(s5,shX 8 107 false 1)]) (ys:=[(s7,shX 13 114 false 0),(s7,shX 13 114 false 1)]);(iterate 7 exact rfl);exact hs7.le (by first|exact Le.refl _|assumption|(repeat (first|assumption|(apply Le.trans;assumption))));exact encF82_len;exact encF82_one;exact QK;exact rfl;omega;exact rfl;intro A8 c8 h8 hle8 hnc8 hs8;(have hfY : FactsAt h8 A8 6 (lY2 s4 s5 s7):=lY2_facts hs8 (hg4.le (by first|exact Le.refl _|assumption|(repeat (first|assumption|(apply Le.trans;assumption))))) (hg5.le (by first|exact Le.refl _|assumption|(repeat (first|assumption|(apply Le.trans;assumption))))) (hg7.le (by first|exact Le.refl _|assumption|(repeat (first|assumption|(apply Le.trans;assumption))))));skip)|(apply OpTo_res;exact rfl;exact has6;exact cS _ (by first|exact Le.refl _|assumption|(repeat (first|assumption|(apply Le.trans;assumption)))) A8 c8 s4 s5 s7 (hfY.le (by first|exact Le.refl _|assumption|(repeat (first|assumption|(apply Le.trans;assumption)))));rintro v9 h9 hle9 ⟨A9,c9,rfl,hS9⟩;(have aS:=hS9.addrD (show 0 < 1 by omega));(have kS : CellsAt h9 ((addrD A9).add (0 * ty30.size)) (encSu suX):=hS9.cellsD su0 (show 0 < 1 by omega));skip)|(apply OpTo_res;exact rfl;exact has14;exact cO8 _ (by first|exact Le.refl _|assumption|(repeat (first|assumption|(apply Le.trans;assumption)))) A8 c8 s4 s5 s7 (hfY.le (by first|exact Le.refl _|assumption|(repeat (first|assumption|(apply Le.trans;assumption)))));rintro v10 h10 hle10 ⟨B1,e1,B2,e2,rfl,hO1,hO2⟩;(have aO:=hO1.addrD (show 0 < 1 by omega));(have kO : CellsAt h10 ((addrD B1).add (0 * ty3.size)) (encI 10):=hO1.cellsD 0 (show 0 < 1 by omega));skip)|(apply OpTo_res;exact rfl;exact has14;exact cO13 _ (by first|exact Le.refl _|assumption|(repeat (first|assumption|(apply Le.trans;assumption)))) A8 c8 s4 s5 s7 (hfY.le (by first|exact Le.refl _|assumption|(repeat (first|assumption|(apply Le.trans;assumption)))));rintro v11 h11 hle11 ⟨B3,e3,B4,e4,rfl,hO3,hO4⟩;skip)|(apply OpTo_res;exact rfl;exact has15;exact cU _ (by first|exact Le.refl _|assumption|(repeat (first|assumption|(apply Le.trans;assumption))));rintro v12 h12 hle12 rfl;skip)))|(apply GO_drawp (n:=9) [0,1,2,3,4,5,6,7,8,9,10,11,12,13,14,15,16,17,18,19,20,21,22,23,24,25,26] [(0,0),(1,0),(2,0),(3,0),(4,0),(5,0),(6,0),(7,0),(8,0),(9,0),(10,0),(11,0),(12,0),(13,0),(14,0),(15,0),(16,0),(17,0),(18,0),(19,0),(20,0),(21,0),(22,1),(23,0),(24,0),(25,0),(26,0)];kernel_rfl)|(apply GP_pv;exact rfl;kernel_rfl;(iterate 3 exact rfl))|(apply GP_ov;exact rfl;kernel_rfl;exact rfl;exact rfl;(first|(apply OV_idxS (j:=0) (n:=1) (A:=A9);(iterate 5 exact rfl);exact aS;omega;omega)|(apply OV_load;exact rfl;apply Lv_ro;exact rfl;exact (kS.le (by first|exact Le.refl _|assumption|(repeat (first|assumption|(apply Le.trans;assumption)))));exact rfl)|(apply OV_eqlS;exact rfl;exact rfl;exact hre;kernel_rfl;kernel_rfl));exact QA)|(apply GP_real;exact rfl;kernel_rfl;(iterate 3 exact rfl);(first|(apply OpTo_val;exact rfl;exact has13;(first|exact game11_c _ 3 5|exact game11_c _ 3 8|exact game11_c _ 3 13);refine ⟨Le.refl _,QN,?_⟩)))|(apply GP_done;kernel_rfl;exact rfl)|(apply GP_split;(iterate 5 exact rfl);all_goals (intro hc;try simp only [hcS,reduceCtorEq] at hc;try (exfalso;omega)))|(apply GOl_split;exact rfl;exact rfl;all_goals (intro hc;try simp only [hcS,reduceCtorEq] at hc;try (exfalso;omega))))
  all_goals first
    | (exfalso;simp at hc;done)
    | (exact GO_retV1 rfl rfl rfl rfl)
    | (exact GO_retV1 rfl rfl rfl (by simp [eqI_eq]))
end Go.Hw

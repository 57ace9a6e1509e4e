import Derived.Test.YtphlhpbmkejbaabGreatDoorGC
import Derived.Test.YtphlhpbmkejbaabGreatDoorFA
import Derived.Test.YtphlhpbmkejbaabGreatDoorHB
import Derived.Test.YtphlhpbmkejbaabGreatDoorHwUs
import Derived.Test.YtphlhpbmkejbaabGreatDoorQSh
set_option linter.unusedVariables false
set_option linter.unusedSimpArgs false
set_option maxRecDepth 100000
set_option maxHeartbeats 4000000
namespace Go.Hw
open Go
attribute [local irreducible] GO GOl GDp Val Fn Res CellsAt ValE Blk OwnS MapA OwnPf Has Yl
open Go.Proofs (Tryz.prog)
structure FactsAt (h : Ro) (A : Option Addr) (n : Nat) (l : List (Fsh × Fct)) : Prop where
  row : SlOf encF82 82 h A n l
  fat : ∀ p ∈ l,FAt h p.1 p.2 ∧ FSm p.2
  small : n ≤ 1000000
theorem FactsAt.le {h h' : Ro} {A : Option Addr} {n : Nat} {l : List (Fsh × Fct)} (a : FactsAt h A n l) (hl : Le h h') : FactsAt h' A n l:=⟨a.row.le hl,fun p hp => ⟨(a.fat p hp).1.le hl,(a.fat p hp).2⟩,a.small⟩
open Classical in
noncomputable def validL (l : List (Fsh × Fct)) : List (Fsh × Fct):=l.filter fun p => decide (p.2.kind = 3 ∧ FctOk p.2)
theorem validL_snoc (l : List (Fsh × Fct)) (p : Fsh × Fct) : validL (l ++ [p]) = validL l ++ validL [p]:=by unfold validL;rw [List.filter_append]
def FR (p : Fsh × Fct) (u : List Value) (h : Ro) : Prop:=u = [factV p.1 p.2]
def p0 : Fsh × Fct:=(fsh0,fct0)
def cmpG (a b : FGame) : Int:=orL [cmpI a.s b.s,cmpI a.c b.c,cmpI a.h b.h,cmpI a.a b.a]
theorem order_c (h : Ro) (a gb : FGame) : Res Tryz.prog 25 #[gameV a,gameV gb] h (fun u _ => u = .int .i64 (cmpG a gb)):=by
  refine Res_intro (args:=[_,_]) ts_ok Go.Proofs.Tryz.func25 rfl rfl fun w0 X0 => ?_
  unfold cmpG
  generalize hor : orL [cmpI a.s gb.s,cmpI a.c gb.c,cmpI a.h gb.h,cmpI a.a gb.a] = o at *
  repeat' (first|apply GO_seq|apply GO_region|apply GOl_nil|(apply GOl_pv;(iterate 3 exact rfl))|(apply GOl_to;(iterate 3 exact rfl);(first|(apply OpTo_box;exact rfl;intro b;skip)))|(apply GO_drawp (n:=1) [0,1,2,3,4,5,6,7,8,9,10,11,12,13,14,15,16,17,18,19,20,21,22] [(0,0),(1,0),(2,0),(3,0),(5,0),(6,0),(7,0),(8,0),(10,0),(11,0),(12,0),(13,0),(15,0),(16,0),(17,0),(18,0),(4,1),(9,1),(14,1),(19,1),(20,1),(21,1),(22,0)];kernel_rfl)|(apply GP_pv;exact rfl;kernel_rfl;(iterate 3 exact rfl))|(apply GP_loadB;exact rfl;kernel_rfl;(iterate 3 exact rfl);exact QM;exact rfl;exact rfl)|(apply GP_real;exact rfl;kernel_rfl;(iterate 3 exact rfl);(first|(apply OpTo_buildSliceR (e:=3) (cs:=[cmpI a.s gb.s,cmpI a.c gb.c,cmpI a.h gb.h,cmpI a.a gb.a].map fun i => .int .i64 i);(iterate 3 exact rfl);exact List.cons_ne_nil _ _;(iterate 4 exact rfl);intro b1 h1 hle1 hcs1;refine ⟨hle1,QN,?_⟩)|(apply OpTo_val;exact rfl;exact has39;(have hv7:=or7_c _ _ 4 4 [cmpI a.s gb.s,cmpI a.c gb.c,cmpI a.h gb.h,cmpI a.a gb.a] (SlOf_ints hcs1) (by omega);rw [hor] at hv7;exact hv7);refine ⟨Le.refl _,QN,?_⟩)|(apply OpTo_val;exact rfl;exact has40;exact cmpI7_c _ _ _;refine ⟨Le.refl _,QN,?_⟩)))|(apply GP_done;kernel_rfl;exact rfl)|(apply GO_retR1;(iterate 3 exact rfl)))
  all_goals rfl
theorem valid_c (h : Ro) (A : Option Addr) (n c : Nat) : Res Tryz.prog 44 #[.slice A n c] h (fun u h' => ∃ bx,u = .func (.func 59) #[] #[.pointer (some ⟨bx,0,none⟩)] ∧ CellsAt h' ⟨bx,0,none⟩ [.slice A n c]):=by
  refine Res_intro (args:=[_]) ts_ok Go.Proofs.Tryz.func44 rfl rfl fun w0 X0 => ?_
  repeat' (first|apply GO_seq|apply GO_region|apply GOl_nil|(apply GOl_pv;(iterate 3 exact rfl))|(apply GOl_to;(iterate 3 exact rfl);(first|(apply OpTo_box;exact rfl;intro b;skip))))
  refine GO_relB QK ?_
  intro h1 hle1 hc1
  (first|(apply GO_retR1;(iterate 3 exact rfl)))
  exact ⟨b,rfl,hc1⟩
open Classical in
theorem validSeq (h : Ro) (A : Option Addr) (n c : Nat) (l : List (Fsh × Fct)) (hx : FactsAt h A n l) (bx : Nat) (hb : CellsAt h ⟨bx,0,none⟩ [.slice A n c]) : SeqR Tryz.prog 59 [.pointer (some ⟨bx,0,none⟩)] FR (validL l) h:=by
  intro lid I Ix mI mIx hround Es h1 hle h0
  refine Fn_intro (args:=[_,_]) ts_ok Go.Proofs.Tryz.func59 rfl rfl fun w0 X0 => ?_
  have hlen:=hx.row.len
  have hn:=hx.small
  have hb1:=hb.le hle
  repeat' (first|apply GO_seq|apply GO_block|apply GO_region|apply GOl_nil|(apply GOl_pv;(iterate 3 exact rfl))|(apply GOl_ov;exact rfl;exact rfl;(first|(apply OV_load;exact rfl;exact Lv_ro rfl hb1 rfl));exact QA))
  refine GO_while (X:=Nat × List Asn × Ro) (fun x => x.1 ≤ n ∧ Le h x.2.2 ∧ I (validL (l.take x.1)) x.2.1 x.2.2) (fun x => n - x.1) (fun x => [(7,.int .i64 x.1),(6,.int .i64 n),(5,.slice A n c),(0,.func (.yield lid) #[] #[])])
    (fun x => x.2.1) (fun x => x.2.2) (0,Es,h1) ⟨by omega,hle,h0⟩ QS rfl rfl ?_
  rintro ⟨k,Es1,hk⟩ ⟨hkn,hlk,hI⟩ ih
  dsimp only at hkn hlk hI ih ⊢
  by_cases hkn2 : k < n
  · have a1:=hx.row.addrD hkn2
    have c1:=(hx.row.cellsD p0 hkn2).le hlk
    have et:=take7 p0 (xs:=l) rfl (show k < l.length by omega)
    have hsplit:=take_split p0 (l:=l) rfl (show k < l.length by omega)
    have hfa:=hx.fat _ (mem7 p0 (show k < l.length by omega))
    generalize l.getD k p0 = p at *
    have hch:=check7_c hk p.1 p.2 (hfa.1.le hlk) hfa.2
    have hyl : (p.2.kind = 3 ∧ FctOk p.2) → Yl Tryz.prog lid [factV p.1 p.2] Es1 hk fun v Es' h' => (v = .bool true ∧ I (validL (l.take (k + 1))) Es' h') ∨ (v = .bool false ∧ Ix (validL (l.take (k + 1))) Es' h'):=fun hv => by
      have e1 : validL [p] = [p]:=by unfold validL;simp [hv]
      have e2 : validL (l.take (k + 1)) = validL (l.take k) ++ [p]:=by rw [et,validL_snoc,e1]
      have e3 : validL l = validL (l.take k) ++ p :: validL (l.drop (k + 1)):=by
        conv => lhs;rw [hsplit]
        unfold validL at e1 ⊢
        rw [List.filter_append,show p :: l.drop (k + 1) = [p] ++ l.drop (k + 1) from rfl,List.filter_append,e1];rfl
      rw [e2]
      exact hround _ _ _ _ _ _ e3 hlk rfl hI
    by_cases hv : p.2.kind = 3 ∧ FctOk p.2
    · have hv1:=hv.1
      rw [if_pos hv.2] at hch
      repeat' (first|apply GO_seq|apply GO_skip|apply GO_inBlock|apply GO_block|apply GO_region|apply GOl_nil|(apply GOl_add;(iterate 3 exact rfl);omega;exact rfl;exact rfl)|(apply GOl_pv;(iterate 3 exact rfl))|(apply GOl_load;exact rfl;exact Ld_blk rfl QM rfl;exact rfl;exact rfl)|(apply GOl_ov;exact rfl;exact rfl;(first|(apply OV_idxS (j:=k);(iterate 5 exact rfl);exact a1;(with_reducible exact rfl);omega)|(apply OV_load;exact rfl;exact Lv_ro rfl c1 rfl));exact QA)|(apply GOl_to;(iterate 3 exact rfl);(first|(apply OpTo_store;(iterate 3 exact rfl);exact QR;(iterate 3 exact rfl);skip)|(apply OpTo_alloc;exact rfl;intro b;skip)|(apply OpTo_val;exact rfl;exact has49;exact hch;skip)|(refine OpTo_perm (List.perm_append_comm (l₁:=[_])) ?_;apply OpTo_yield (Es0:=Es1) (Fs:=[_]);(iterate 3 exact rfl);exact hyl hv;rintro v E2 h2 hle2 (⟨rfl,hP⟩|⟨rfl,hP⟩);all_goals skip)))|(apply GO_cond;exact rfl;all_goals (intro hc;try simp only [hcS,reduceCtorEq] at hc;try (exfalso;omega)))|(apply GOl_split;exact rfl;exact rfl;all_goals (intro hc;try simp only [hcS,reduceCtorEq] at hc;try (exfalso;omega))))
      all_goals first
        | (exfalso;omega)
        | (have h3:=ih (k + 1,E2,h2) ⟨by show k + 1 ≤ n;omega,hlk.trans hle2,hP⟩ (by show n - (k + 1) < n - k;omega)
           refine GO_perm (List.perm_append_comm (l₁:=E2) (l₂:=[_])) (GO_drop .here ?_)
           exact GO_keep QS h3)
        | (refine GO_retS (rs:=[]) (vs:=[]) (Fs:=E2) rfl rfl trivial (List.sublist_append_left _ _) (.inr ⟨validL (l.take (k + 1)),validL (l.drop (k + 1)),?_,hP⟩)
           unfold validL;rw [← List.filter_append,List.take_append_drop])
    have hno : validL (l.take (k + 1)) = validL (l.take k):=by
      rw [et,validL_snoc];unfold validL;simp [hv]
    by_cases hk3 : p.2.kind = 3
    · rw [if_neg (fun h => hv ⟨hk3,h⟩)] at hch
      repeat' (first|apply GO_seq|apply GO_skip|apply GO_inBlock|apply GO_block|apply GO_region|apply GOl_nil|(apply GOl_unwanted;exact rfl;exact rfl)|(apply GOl_add;(iterate 3 exact rfl);omega;exact rfl;exact rfl)|(apply GOl_pv;(iterate 3 exact rfl))|(apply GOl_load;exact rfl;exact Ld_blk rfl QM rfl;exact rfl;exact rfl)|(apply GOl_ov;exact rfl;exact rfl;(first|(apply OV_idxS (j:=k);(iterate 5 exact rfl);exact a1;(with_reducible exact rfl);omega)|(apply OV_load;exact rfl;exact Lv_ro rfl c1 rfl));exact QA)|(apply GOl_to;(iterate 3 exact rfl);(first|(apply OpTo_store;(iterate 3 exact rfl);exact QR;(iterate 3 exact rfl);skip)|(apply OpTo_alloc;exact rfl;intro b;skip)|(apply OpTo_val;exact rfl;exact has49;exact hch;skip)))|(apply GO_cond;exact rfl;all_goals (intro hc;try simp only [hcS,reduceCtorEq] at hc;try (exfalso;omega)))|(apply GOl_split;exact rfl;exact rfl;all_goals (intro hc;try simp only [hcS,reduceCtorEq] at hc;try (exfalso;omega))))
      all_goals
        have h3:=ih (k + 1,Es1,hk) ⟨by show k + 1 ≤ n;omega,hlk,by show I (validL (l.take (k + 1))) _ _;rw [hno];exact hI⟩ (by show n - (k + 1) < n - k;omega)
        refine GO_drop .here ?_
        exact GO_keep QS h3
    · generalize (if FctOk p.2 then (0 : Int) else 70) = chv at hch
      repeat' (first|apply GO_seq|apply GO_skip|apply GO_inBlock|apply GO_block|apply GO_region|apply GOl_nil|(apply GOl_unwanted;exact rfl;exact rfl)|(apply GOl_add;(iterate 3 exact rfl);omega;exact rfl;exact rfl)|(apply GOl_pv;(iterate 3 exact rfl))|(apply GOl_load;exact rfl;exact Ld_blk rfl QM rfl;exact rfl;exact rfl)|(apply GOl_ov;exact rfl;exact rfl;(first|(apply OV_idxS (j:=k);(iterate 5 exact rfl);exact a1;(with_reducible exact rfl);omega)|(apply OV_load;exact rfl;exact Lv_ro rfl c1 rfl));exact QA)|(apply GOl_to;(iterate 3 exact rfl);(first|(apply OpTo_store;(iterate 3 exact rfl);exact QR;(iterate 3 exact rfl);skip)|(apply OpTo_alloc;exact rfl;intro b;skip)))|(apply GO_cond;exact rfl;all_goals (intro hc;try simp only [hcS,reduceCtorEq] at hc;try (exfalso;omega)))|(apply GOl_split;exact rfl;exact rfl;all_goals (intro hc;try simp only [hcS,reduceCtorEq] at hc;try (exfalso;omega))))
      all_goals
        have h3:=ih (k + 1,Es1,hk) ⟨by show k + 1 ≤ n;omega,hlk,by show I (validL (l.take (k + 1))) _ _;rw [hno];exact hI⟩ (by show n - (k + 1) < n - k;omega)
        refine GO_drop .here ?_
        exact GO_keep QS h3
  · rw [List.take_of_length_le (by omega)] at hI
    repeat' (first|apply GO_seq|apply GO_region|apply GOl_nil|(apply GO_exit;exact rfl)|(apply GOl_pv;(iterate 3 exact rfl))|(apply GO_cond;exact rfl;all_goals (intro hc;try simp only [hcS,reduceCtorEq] at hc;try (exfalso;omega))))
    exact GO_end (rs:=[]) (vs:=[]) rfl rfl trivial (.inl hI)
end Go.Hw
set_option linter.unusedVariables false
set_option linter.unusedSimpArgs false
set_option maxRecDepth 100000
set_option maxHeartbeats 4000000
namespace Go.Hw
open Go
attribute [local irreducible] GO GOl GDp Val Fn Res CellsAt ValE Blk OwnS MapA OwnPf Has Yl
open Go.Proofs (Tryz.prog)
theorem KG : KeyT Tryz.prog 28 gameV :=
  KeyT.struct ts_ok rfl rfl gameC (fun x y e => by
    cases x;cases y;simp only [gameC,List.cons.injEq,Value.int.injEq,true_and,and_true] at e;obtain ⟨rfl,rfl,rfl,rfl⟩:=e;rfl) (fun x => rfl) game_eq (by kernel_rfl) (fun x v hv => by
    simp only [gameC,List.mem_cons,List.not_mem_nil,or_false] at hv
    rcases hv with rfl|rfl|rfl|rfl <;> exact ⟨_,_,rfl⟩)
theorem sameSh_c (h : Ro) (s : Fsh) (x : FSheet) (hx : ShAt h s x) (hxs : ShSm x) (t : Fsh) (y : FSheet) (hy : ShAt h t y) (hys : ShSm y) : Val Tryz.prog 46 #[sheetV s x,sheetV t y] h (.bool (decide (SameSh x y))):=by
  refine Val_intro (args:=[_,_]) ts_ok Go.Proofs.Tryz.func46 rfl rfl fun w0 X0 => ?_
  have n1:=hx.hs.len;have n2:=hx.asn.len;have n3:=hx.hc.len;have n4:=hx.ac.len
  have m1:=hy.hs.len;have m2:=hy.asn.len;have m3:=hy.hc.len;have m4:=hy.ac.len
  obtain ⟨q1,q2,q3,q4⟩:=hxs
  obtain ⟨r1,r2,r3,r4⟩:=hys
  repeat' (first|apply GO_seq|apply GO_region|apply GOl_nil|(apply GOl_unwanted;exact rfl;exact rfl)|(apply GOl_pv;(iterate 3 exact rfl))|(apply GOl_load;exact rfl;exact Ld_blk rfl QM rfl;exact rfl;exact rfl)|(apply GOl_ov;exact rfl;exact rfl;(first|(apply OV_eqlS;exact rfl;exact rfl;exact game_eq _ _;kernel_rfl;kernel_rfl));exact QA)|(apply GOl_to;(iterate 3 exact rfl);(first|(apply OpTo_box;exact rfl;intro b;skip)|(apply OpTo_val;exact rfl;exact has60;first|exact equalI_c _ _ _ _ x.hs (hx.hs.le (by first|exact Le.refl _|assumption|(repeat (first|assumption|(apply Le.trans;assumption))))) (by omega) _ _ _ y.hs (hy.hs.le (by first|exact Le.refl _|assumption|(repeat (first|assumption|(apply Le.trans;assumption))))) (by omega)|exact equalI_c _ _ _ _ x.asn (hx.asn.le (by first|exact Le.refl _|assumption|(repeat (first|assumption|(apply Le.trans;assumption))))) (by omega) _ _ _ y.asn (hy.asn.le (by first|exact Le.refl _|assumption|(repeat (first|assumption|(apply Le.trans;assumption))))) (by omega);skip)|(apply OpTo_val;exact rfl;exact has61;first|exact equalC_c _ _ _ _ x.hc (hx.hc.le (by first|exact Le.refl _|assumption|(repeat (first|assumption|(apply Le.trans;assumption))))) (by omega) _ _ _ y.hc (hy.hc.le (by first|exact Le.refl _|assumption|(repeat (first|assumption|(apply Le.trans;assumption))))) (by omega)|exact equalC_c _ _ _ _ x.ac (hx.ac.le (by first|exact Le.refl _|assumption|(repeat (first|assumption|(apply Le.trans;assumption))))) (by omega) _ _ _ y.ac (hy.ac.le (by first|exact Le.refl _|assumption|(repeat (first|assumption|(apply Le.trans;assumption))))) (by omega);skip)))|(apply GOl_split;exact rfl;exact rfl;all_goals (intro hc;try simp only [hcS,reduceCtorEq] at hc;try (exfalso;omega))))
  all_goals (first|(apply GO_retV1;(iterate 3 exact rfl)))
  all_goals (clear hx hy;refine dec_ofV ?_)
  all_goals (rw [SameSh_iff];grind)
abbrev Pr:=(Fsh × Fct) × (Fsh × Fct)
def prC (p : Pr) : List Value:=factC p.1.1 p.1.2 ++ factC p.2.1 p.2.2
def prV (p : Pr) : Value:=.agg (prC p).toArray
def pr0 : Pr:=(p0,p0)
def FGood (h : Ro) (x : Fsh × Fct) : Prop:=FAt h x.1 x.2 ∧ FSm x.2 ∧ FctOk x.2 ∧ x.2.kind = 3
def PrAt (h : Ro) (p : Pr) : Prop:=(p.1.2.kind = 0 ∨ FGood h p.1) ∧ (p.2.2.kind = 0 ∨ FGood h p.2)
theorem FGood.le {h h' : Ro} {x : Fsh × Fct} (a : FGood h x) (hl : Le h h') : FGood h' x:=⟨a.1.le hl,a.2⟩
theorem PrAt.le {h h' : Ro} {p : Pr} (a : PrAt h p) (hl : Le h h') : PrAt h' p:=⟨a.1.imp id (·.le hl),a.2.imp id (·.le hl)⟩
theorem PrAt.zero (h : Ro) : PrAt h pr0:=⟨.inl rfl,.inl rfl⟩
def takeP (p : Pr) (x : Fsh × Fct) : Pr :=
  if x.2.sh.ref = 0 then (if p.1.2.kind = 0 ∨ cmpF p.1.2 x.2 < 0 then (x,p.2) else p) else (if p.2.2.kind = 0 ∨ cmpF p.2.2 x.2 < 0 then (p.1,x) else p)
theorem PrAt.take {h : Ro} {p : Pr} {x : Fsh × Fct} (hp : PrAt h p) (hx : FGood h x) : PrAt h (takeP p x):=by
  unfold takeP
  split
  · split
    · exact ⟨.inr hx,hp.2⟩
    · exact hp
  · split
    · exact ⟨hp.1,.inr hx⟩
    · exact hp
theorem take_c (h : Ro) (hG : PowG h) (p : Pr) (x : Fsh × Fct) (hp : PrAt h p) (hx : FGood h x) : Res Tryz.prog 45 #[prV p,factV x.1 x.2] h (fun u _ => u = prV (takeP p x)):=by
  refine Res_intro (args:=[_,_]) ts_ok Go.Proofs.Tryz.func45 rfl rfl fun w0 X0 => ?_
  obtain ⟨⟨s,f⟩,⟨t,g⟩⟩:=p
  obtain ⟨z,e⟩:=x
  obtain ⟨hx1,hx2,hx3,hx4⟩:=hx
  dsimp only at hx1 hx2 hx3 hx4
  have hr:=ref_of hx3 hx4
  rcases hr with hr|hr
  · by_cases hk : f.kind = 0
    · have et : takeP ((s,f),(t,g)) (z,e) = ((z,e),(t,g)):=by unfold takeP;rw [if_pos hr,if_pos (.inl hk)]
      rw [et]
      repeat' (first|apply GO_seq|apply GO_region|apply GOl_nil|(apply GOl_pv;(iterate 3 exact rfl))|(apply GOl_load;exact rfl;exact Ld_blk rfl QM rfl;exact rfl;exact rfl)|(apply GOl_ov;exact rfl;exact rfl;(first|(apply OV_idxA (j:=0);(iterate 5 exact rfl);exact hr;exact (by decide)));exact QA)|(apply GOl_to;(iterate 3 exact rfl);(first|(apply OpTo_store;(iterate 3 exact rfl);exact QR;(iterate 3 exact rfl);skip)|(apply OpTo_box;exact rfl;intro b;skip)|(apply OpTo_alloc;exact rfl;intro b;skip)))|(apply GO_drawp (n:=2) [0,1,2,3,4,5,6,7,8,9,10,11,12] [(0,0),(1,0),(2,0),(3,0),(4,0),(5,0),(6,0),(7,0),(8,0),(9,0),(10,1),(11,0),(12,0)];kernel_rfl)|(apply GP_un;exact rfl;kernel_rfl;exact rfl;exact rfl)|(apply GP_pv;exact rfl;kernel_rfl;(iterate 3 exact rfl))|(apply GP_loadB;exact rfl;kernel_rfl;(iterate 3 exact rfl);exact QM;exact rfl;exact rfl)|(apply GP_ov;exact rfl;kernel_rfl;exact rfl;exact rfl;(first|(apply OV_idxA (j:=0);(iterate 5 exact rfl);exact hr;exact (by decide)));exact QA)|(apply GP_done;kernel_rfl;exact rfl)|(apply GP_split;(iterate 5 exact rfl);all_goals (intro hc;try simp only [hcS,reduceCtorEq] at hc;try (exfalso;omega)))|(apply GO_cond;exact rfl;all_goals (intro hc;try simp only [hcS,reduceCtorEq] at hc;try (exfalso;omega)))|(apply GO_retRC1;(iterate 3 exact rfl);exact QM;exact rfl;exact rfl)|(apply GP_un1;exact rfl;kernel_rfl;exact rfl;exact rfl))
      all_goals rfl
    · have hf : FGood h (s,f):=hp.1.resolve_left hk
      obtain ⟨hf1,hf2,hf3,hf4⟩:=hf
      dsimp only at hf1 hf2 hf3 hf4
      by_cases hl : cmpF f e < 0
      · have et : takeP ((s,f),(t,g)) (z,e) = ((z,e),(t,g)):=by unfold takeP;rw [if_pos hr,if_pos (.inr hl)]
        rw [et]
        repeat' (first|apply GO_seq|apply GO_region|apply GOl_nil|(apply GOl_pv;(iterate 3 exact rfl))|(apply GOl_load;exact rfl;exact Ld_blk rfl QM rfl;exact rfl;exact rfl)|(apply GOl_ov;exact rfl;exact rfl;(first|(apply OV_idxA (j:=0);(iterate 5 exact rfl);exact hr;exact (by decide)));exact QA)|(apply GOl_to;(iterate 3 exact rfl);(first|(apply OpTo_store;(iterate 3 exact rfl);exact QR;(iterate 3 exact rfl);skip)|(apply OpTo_box;exact rfl;intro b;skip)|(apply OpTo_alloc;exact rfl;intro b;skip)))|(apply GO_drawp (n:=2) [0,1,2,3,4,5,6,7,8,9,10,11,12] [(0,0),(1,0),(2,0),(3,0),(4,0),(5,0),(6,0),(7,0),(8,0),(9,0),(10,1),(11,0),(12,0)];kernel_rfl)|(apply GP_pv;exact rfl;kernel_rfl;(iterate 3 exact rfl))|(apply GP_loadB;exact rfl;kernel_rfl;(iterate 3 exact rfl);exact QM;exact rfl;exact rfl)|(apply GP_ov;exact rfl;kernel_rfl;exact rfl;exact rfl;(first|(apply OV_idxA (j:=0);(iterate 5 exact rfl);exact hr;exact (by decide)));exact QA)|(apply GP_real;exact rfl;kernel_rfl;(iterate 3 exact rfl);(first|(apply OpTo_res;exact rfl;exact has28;exact compare7_c _ (hG.le (by first|exact Le.refl _|assumption|(repeat (first|assumption|(apply Le.trans;assumption))))) s z f e (hf1.le (by first|exact Le.refl _|assumption|(repeat (first|assumption|(apply Le.trans;assumption))))) hf2 (hx1.le (by first|exact Le.refl _|assumption|(repeat (first|assumption|(apply Le.trans;assumption))))) hx2 hf3 hx3;rintro vr hr1 hle1 rfl;refine ⟨hle1,QN,?_⟩)))|(apply GP_done;kernel_rfl;exact rfl)|(apply GP_split;(iterate 5 exact rfl);all_goals (intro hc;try simp only [hcS,reduceCtorEq] at hc;try (exfalso;omega)))|(apply GO_cond;exact rfl;all_goals (intro hc;try simp only [hcS,reduceCtorEq] at hc;try (exfalso;omega)))|(apply GO_retRC1;(iterate 3 exact rfl);exact QM;exact rfl;exact rfl))
        all_goals rfl
      · have et : takeP ((s,f),(t,g)) (z,e) = ((s,f),(t,g)):=by unfold takeP;rw [if_pos hr,if_neg (fun h => h.elim hk hl)]
        rw [et]
        repeat' (first|apply GO_seq|apply GO_skip|apply GO_region|apply GOl_nil|(apply GOl_pv;(iterate 3 exact rfl))|(apply GOl_load;exact rfl;exact Ld_blk rfl QM rfl;exact rfl;exact rfl)|(apply GOl_to;(iterate 3 exact rfl);(first|(apply OpTo_store;(iterate 3 exact rfl);exact QR;(iterate 3 exact rfl);skip)|(apply OpTo_box;exact rfl;intro b;skip)|(apply OpTo_alloc;exact rfl;intro b;skip)))|(apply GO_drawp (n:=2) [0,1,2,3,4,5,6,7,8,9,10,11,12] [(0,0),(1,0),(2,0),(3,0),(4,0),(5,0),(6,0),(7,0),(8,0),(9,0),(10,1),(11,0),(12,0)];kernel_rfl)|(apply GP_pv;exact rfl;kernel_rfl;(iterate 3 exact rfl))|(apply GP_loadB;exact rfl;kernel_rfl;(iterate 3 exact rfl);exact QM;exact rfl;exact rfl)|(apply GP_ov;exact rfl;kernel_rfl;exact rfl;exact rfl;(first|(apply OV_idxA (j:=0);(iterate 5 exact rfl);exact hr;exact (by decide)));exact QA)|(apply GP_real;exact rfl;kernel_rfl;(iterate 3 exact rfl);(first|(apply OpTo_res;exact rfl;exact has28;exact compare7_c _ (hG.le (by first|exact Le.refl _|assumption|(repeat (first|assumption|(apply Le.trans;assumption))))) s z f e (hf1.le (by first|exact Le.refl _|assumption|(repeat (first|assumption|(apply Le.trans;assumption))))) hf2 (hx1.le (by first|exact Le.refl _|assumption|(repeat (first|assumption|(apply Le.trans;assumption))))) hx2 hf3 hx3;rintro vr hr1 hle1 rfl;refine ⟨hle1,QN,?_⟩)))|(apply GP_done;kernel_rfl;exact rfl)|(apply GP_split;(iterate 5 exact rfl);all_goals (intro hc;try simp only [hcS,reduceCtorEq] at hc;try (exfalso;omega)))|(apply GO_cond;exact rfl;all_goals (intro hc;try simp only [hcS,reduceCtorEq] at hc;try (exfalso;omega)))|(apply GO_retRC1;(iterate 3 exact rfl);exact QM;exact rfl;exact rfl))
        all_goals rfl
  · have hr0 : ¬ e.sh.ref = 0:=by omega
    by_cases hk : g.kind = 0
    · have et : takeP ((s,f),(t,g)) (z,e) = ((s,f),(z,e)):=by unfold takeP;rw [if_neg hr0,if_pos (.inl hk)]
      rw [et]
      repeat' (first|apply GO_seq|apply GO_region|apply GOl_nil|(apply GOl_pv;(iterate 3 exact rfl))|(apply GOl_load;exact rfl;exact Ld_blk rfl QM rfl;exact rfl;exact rfl)|(apply GOl_ov;exact rfl;exact rfl;(first|(apply OV_idxA (j:=1);(iterate 5 exact rfl);exact hr;exact (by decide)));exact QA)|(apply GOl_to;(iterate 3 exact rfl);(first|(apply OpTo_store;(iterate 3 exact rfl);exact QR;(iterate 3 exact rfl);skip)|(apply OpTo_box;exact rfl;intro b;skip)|(apply OpTo_alloc;exact rfl;intro b;skip)))|(apply GO_drawp (n:=2) [0,1,2,3,4,5,6,7,8,9,10,11,12] [(0,0),(1,0),(2,0),(3,0),(4,0),(5,0),(6,0),(7,0),(8,0),(9,0),(10,1),(11,0),(12,0)];kernel_rfl)|(apply GP_un;exact rfl;kernel_rfl;exact rfl;exact rfl)|(apply GP_pv;exact rfl;kernel_rfl;(iterate 3 exact rfl))|(apply GP_loadB;exact rfl;kernel_rfl;(iterate 3 exact rfl);exact QM;exact rfl;exact rfl)|(apply GP_ov;exact rfl;kernel_rfl;exact rfl;exact rfl;(first|(apply OV_idxA (j:=1);(iterate 5 exact rfl);exact hr;exact (by decide)));exact QA)|(apply GP_done;kernel_rfl;exact rfl)|(apply GP_split;(iterate 5 exact rfl);all_goals (intro hc;try simp only [hcS,reduceCtorEq] at hc;try (exfalso;omega)))|(apply GO_cond;exact rfl;all_goals (intro hc;try simp only [hcS,reduceCtorEq] at hc;try (exfalso;omega)))|(apply GO_retRC1;(iterate 3 exact rfl);exact QM;exact rfl;exact rfl)|(apply GP_un1;exact rfl;kernel_rfl;exact rfl;exact rfl))
      all_goals rfl
    · have hf : FGood h (t,g):=hp.2.resolve_left hk
      obtain ⟨hf1,hf2,hf3,hf4⟩:=hf
      dsimp only at hf1 hf2 hf3 hf4
      by_cases hl : cmpF g e < 0
      · have et : takeP ((s,f),(t,g)) (z,e) = ((s,f),(z,e)):=by unfold takeP;rw [if_neg hr0,if_pos (.inr hl)]
        rw [et]
        repeat' (first|apply GO_seq|apply GO_region|apply GOl_nil|(apply GOl_pv;(iterate 3 exact rfl))|(apply GOl_load;exact rfl;exact Ld_blk rfl QM rfl;exact rfl;exact rfl)|(apply GOl_ov;exact rfl;exact rfl;(first|(apply OV_idxA (j:=1);(iterate 5 exact rfl);exact hr;exact (by decide)));exact QA)|(apply GOl_to;(iterate 3 exact rfl);(first|(apply OpTo_store;(iterate 3 exact rfl);exact QR;(iterate 3 exact rfl);skip)|(apply OpTo_box;exact rfl;intro b;skip)|(apply OpTo_alloc;exact rfl;intro b;skip)))|(apply GO_drawp (n:=2) [0,1,2,3,4,5,6,7,8,9,10,11,12] [(0,0),(1,0),(2,0),(3,0),(4,0),(5,0),(6,0),(7,0),(8,0),(9,0),(10,1),(11,0),(12,0)];kernel_rfl)|(apply GP_pv;exact rfl;kernel_rfl;(iterate 3 exact rfl))|(apply GP_loadB;exact rfl;kernel_rfl;(iterate 3 exact rfl);exact QM;exact rfl;exact rfl)|(apply GP_ov;exact rfl;kernel_rfl;exact rfl;exact rfl;(first|(apply OV_idxA (j:=1);(iterate 5 exact rfl);exact hr;exact (by decide)));exact QA)|(apply GP_real;exact rfl;kernel_rfl;(iterate 3 exact rfl);(first|(apply OpTo_res;exact rfl;exact has28;exact compare7_c _ (hG.le (by first|exact Le.refl _|assumption|(repeat (first|assumption|(apply Le.trans;assumption))))) t z g e (hf1.le (by first|exact Le.refl _|assumption|(repeat (first|assumption|(apply Le.trans;assumption))))) hf2 (hx1.le (by first|exact Le.refl _|assumption|(repeat (first|assumption|(apply Le.trans;assumption))))) hx2 hf3 hx3;rintro vr hr1 hle1 rfl;refine ⟨hle1,QN,?_⟩)))|(apply GP_done;kernel_rfl;exact rfl)|(apply GP_split;(iterate 5 exact rfl);all_goals (intro hc;try simp only [hcS,reduceCtorEq] at hc;try (exfalso;omega)))|(apply GO_cond;exact rfl;all_goals (intro hc;try simp only [hcS,reduceCtorEq] at hc;try (exfalso;omega)))|(apply GO_retRC1;(iterate 3 exact rfl);exact QM;exact rfl;exact rfl))
        all_goals rfl
      · have et : takeP ((s,f),(t,g)) (z,e) = ((s,f),(t,g)):=by unfold takeP;rw [if_neg hr0,if_neg (fun h => h.elim hk hl)]
        rw [et]
        repeat' (first|apply GO_seq|apply GO_skip|apply GO_region|apply GOl_nil|(apply GOl_pv;(iterate 3 exact rfl))|(apply GOl_load;exact rfl;exact Ld_blk rfl QM rfl;exact rfl;exact rfl)|(apply GOl_to;(iterate 3 exact rfl);(first|(apply OpTo_store;(iterate 3 exact rfl);exact QR;(iterate 3 exact rfl);skip)|(apply OpTo_box;exact rfl;intro b;skip)|(apply OpTo_alloc;exact rfl;intro b;skip)))|(apply GO_drawp (n:=2) [0,1,2,3,4,5,6,7,8,9,10,11,12] [(0,0),(1,0),(2,0),(3,0),(4,0),(5,0),(6,0),(7,0),(8,0),(9,0),(10,1),(11,0),(12,0)];kernel_rfl)|(apply GP_pv;exact rfl;kernel_rfl;(iterate 3 exact rfl))|(apply GP_loadB;exact rfl;kernel_rfl;(iterate 3 exact rfl);exact QM;exact rfl;exact rfl)|(apply GP_ov;exact rfl;kernel_rfl;exact rfl;exact rfl;(first|(apply OV_idxA (j:=1);(iterate 5 exact rfl);exact hr;exact (by decide)));exact QA)|(apply GP_real;exact rfl;kernel_rfl;(iterate 3 exact rfl);(first|(apply OpTo_res;exact rfl;exact has28;exact compare7_c _ (hG.le (by first|exact Le.refl _|assumption|(repeat (first|assumption|(apply Le.trans;assumption))))) t z g e (hf1.le (by first|exact Le.refl _|assumption|(repeat (first|assumption|(apply Le.trans;assumption))))) hf2 (hx1.le (by first|exact Le.refl _|assumption|(repeat (first|assumption|(apply Le.trans;assumption))))) hx2 hf3 hx3;rintro vr hr1 hle1 rfl;refine ⟨hle1,QN,?_⟩)))|(apply GP_done;kernel_rfl;exact rfl)|(apply GP_split;(iterate 5 exact rfl);all_goals (intro hc;try simp only [hcS,reduceCtorEq] at hc;try (exfalso;omega)))|(apply GO_cond;exact rfl;all_goals (intro hc;try simp only [hcS,reduceCtorEq] at hc;try (exfalso;omega)))|(apply GO_retRC1;(iterate 3 exact rfl);exact QM;exact rfl;exact rfl))
        all_goals rfl
def optP (x : Fsh × Fct) : Option Fct:=if x.2.kind = 0 then none else some x.2
def scoreV (s : Fsh) (x : FScore) : Value:=.agg (.int .i64 x.kind :: (sheetC s x.sh ++ [.int .i64 x.day])).toArray
def scoreP (p : Pr) : FScore:=scoreO (optP p.1) (optP p.2)
def scoreS (p : Pr) : Fsh:=if p.1.2.kind = 0 then (if p.2.2.kind = 0 then fsh0 else p.2.1) else if p.2.2.kind = 0 then p.1.1 else if SameSh p.1.2.sh p.2.2.sh then p.1.1 else fsh0
theorem ShSm.nil : ShSm sheet0:=⟨by decide,by decide,by decide,by decide⟩
theorem scoreP_at {h : Ro} {p : Pr} (hp : PrAt h p) : ShAt h (scoreS p) (scoreP p).sh ∧ ShSm (scoreP p).sh:=by
  unfold scoreS scoreP optP
  by_cases h1 : p.1.2.kind = 0 <;> by_cases h2 : p.2.2.kind = 0
  · simp only [h1,h2,if_true];exact ⟨ShAt.nil h,ShSm.nil⟩
  · simp only [h1,h2,if_true,if_false];have:=hp.2.resolve_left h2;exact ⟨this.1.sh,this.2.1.1⟩
  · simp only [h1,h2,if_true,if_false];have:=hp.1.resolve_left h1;exact ⟨this.1.sh,this.2.1.1⟩
  · simp only [h1,h2,if_false,scoreO]
    split
    · have:=hp.1.resolve_left h1;exact ⟨this.1.sh,this.2.1.1⟩
    · exact ⟨ShAt.nil h,ShSm.nil⟩
theorem score_c (h : Ro) (p : Pr) (hp : PrAt h p) : Val Tryz.prog 23 #[prV p] h (scoreV (scoreS p) (scoreP p)):=by
  refine Val_intro (args:=[_]) ts_ok Go.Proofs.Tryz.func23 rfl rfl fun w0 X0 => ?_
  obtain ⟨⟨s,f⟩,⟨t,g⟩⟩:=p
  by_cases h1 : f.kind = 0 <;> by_cases h2 : g.kind = 0
  · have e1 : scoreV (scoreS ((s,f),(t,g))) (scoreP ((s,f),(t,g))) = scoreV fsh0 score0:=by unfold scoreS scoreP optP;simp only [h1,h2,if_true];rfl
    rw [e1]
    repeat' (first|apply GO_seq|apply GO_skip|apply GO_inBlock|apply GO_block|apply GO_region|apply GOl_nil|(apply GOl_pv;(iterate 3 exact rfl))|(apply GOl_load;exact rfl;exact Ld_blk rfl QM rfl;exact rfl;exact rfl)|(apply GOl_to;(iterate 3 exact rfl);(first|(apply OpTo_store;(iterate 3 exact rfl);exact QR;(iterate 3 exact rfl);skip)|(apply OpTo_box;exact rfl;intro b;skip)|(apply OpTo_alloc;exact rfl;intro b;skip)))|(apply GO_drawp (n:=1) [0,1,4,5,6,2,3,7] [(0,0),(1,0),(2,0),(3,0),(4,2),(3,5),(5,1),(6,1),(7,1),(4,1),(6,1),(7,1)];kernel_rfl)|(apply GP_loadB;exact rfl;kernel_rfl;(iterate 3 exact rfl);exact QM;exact rfl;exact rfl)|(apply GP_ov;exact rfl;kernel_rfl;exact rfl;exact rfl;(first|(apply OV_idxA (j:=0);(iterate 6 exact rfl);exact (by decide))|(apply OV_idxA (j:=1);(iterate 6 exact rfl);exact (by decide)));exact QA)|(apply GP_real;exact rfl;kernel_rfl;(iterate 3 exact rfl);(first|(apply OpTo_store;(iterate 3 exact rfl);exact QR;(iterate 3 exact rfl);refine ⟨Le.refl _,QN,?_⟩)|(apply OpTo_alloc;exact rfl;intro b;refine ⟨Le.refl _,QN,?_⟩)))|(apply GP_two;kernel_rfl;exact rfl;exact rfl)|(apply RealP_intro;(iterate 4 exact rfl);(first|(apply OpTo_alloc;exact rfl;intro b;refine ⟨Le.refl _,QN,?_⟩)))|(apply GP_done;kernel_rfl;exact rfl)|(apply GO_cond;exact rfl;all_goals (intro hc;try simp only [hcS,reduceCtorEq] at hc;try (exfalso;omega)))|(apply GOl_split;exact rfl;exact rfl;all_goals (intro hc;try simp only [hcS,reduceCtorEq] at hc;try (exfalso;omega)))|(apply GO_retC1;(iterate 3 exact rfl);exact QM;exact rfl;exact rfl))
    all_goals rfl
  · have e1 : scoreV (scoreS ((s,f),(t,g))) (scoreP ((s,f),(t,g))) = scoreV t ⟨1,g.sh,g.day⟩:=by unfold scoreS scoreP optP;simp only [h1,h2,if_true,if_false];rfl
    rw [e1]
    repeat' (first|apply GO_seq|apply GO_inBlock|apply GO_block|apply GO_region|apply GOl_nil|(apply GOl_pv;(iterate 3 exact rfl))|(apply GOl_load;exact rfl;exact Ld_blk rfl QM rfl;exact rfl;exact rfl)|(apply GOl_to;(iterate 3 exact rfl);(first|(apply OpTo_store;(iterate 3 exact rfl);exact QR;(iterate 3 exact rfl);skip)|(apply OpTo_box;exact rfl;intro b;skip)|(apply OpTo_alloc;exact rfl;intro b;skip)))|(apply GO_drawp (n:=1) [0,1,4,5,6,2,3,7] [(0,0),(1,0),(2,0),(3,0),(4,2),(3,5),(5,1),(6,1),(7,1),(4,1),(6,1),(7,1)];kernel_rfl)|(apply GP_loadB;exact rfl;kernel_rfl;(iterate 3 exact rfl);exact QM;exact rfl;exact rfl)|(apply GP_ov;exact rfl;kernel_rfl;exact rfl;exact rfl;(first|(apply OV_idxA (j:=0);(iterate 6 exact rfl);exact (by decide))|(apply OV_idxA (j:=1);(iterate 6 exact rfl);exact (by decide)));exact QA)|(apply GP_real;exact rfl;kernel_rfl;(iterate 3 exact rfl);(first|(apply OpTo_store;(iterate 3 exact rfl);exact QR;(iterate 3 exact rfl);refine ⟨Le.refl _,QN,?_⟩)|(apply OpTo_alloc;exact rfl;intro b;refine ⟨Le.refl _,QN,?_⟩)))|(apply GP_two;kernel_rfl;exact rfl;exact rfl)|(apply RealP_intro;(iterate 4 exact rfl);(first|(apply OpTo_alloc;exact rfl;intro b;refine ⟨Le.refl _,QN,?_⟩)))|(apply GP_done;kernel_rfl;exact rfl)|(apply GO_cond;exact rfl;all_goals (intro hc;try simp only [hcS,reduceCtorEq] at hc;try (exfalso;omega)))|(apply GOl_split;exact rfl;exact rfl;all_goals (intro hc;try simp only [hcS,reduceCtorEq] at hc;try (exfalso;omega)))|(apply GO_retC1;(iterate 3 exact rfl);exact QM;exact rfl;exact rfl))
    all_goals rfl
  · have e1 : scoreV (scoreS ((s,f),(t,g))) (scoreP ((s,f),(t,g))) = scoreV s ⟨1,f.sh,f.day⟩:=by unfold scoreS scoreP optP;simp only [h1,h2,if_true,if_false];rfl
    rw [e1]
    repeat' (first|apply GO_seq|apply GO_inBlock|apply GO_block|apply GO_region|apply GOl_nil|(apply GOl_unwanted;exact rfl;exact rfl)|(apply GOl_pv;(iterate 3 exact rfl))|(apply GOl_load;exact rfl;exact Ld_blk rfl QM rfl;exact rfl;exact rfl)|(apply GOl_to;(iterate 3 exact rfl);(first|(apply OpTo_store;(iterate 3 exact rfl);exact QR;(iterate 3 exact rfl);skip)|(apply OpTo_box;exact rfl;intro b;skip)|(apply OpTo_alloc;exact rfl;intro b;skip)))|(apply GO_drawp (n:=1) [0,1,4,5,6,2,3,7] [(0,0),(1,0),(2,0),(3,0),(4,2),(3,5),(5,1),(6,1),(7,1),(4,1),(6,1),(7,1)];kernel_rfl)|(apply GP_loadB;exact rfl;kernel_rfl;(iterate 3 exact rfl);exact QM;exact rfl;exact rfl)|(apply GP_ov;exact rfl;kernel_rfl;exact rfl;exact rfl;(first|(apply OV_idxA (j:=0);(iterate 6 exact rfl);exact (by decide))|(apply OV_idxA (j:=1);(iterate 6 exact rfl);exact (by decide)));exact QA)|(apply GP_real;exact rfl;kernel_rfl;(iterate 3 exact rfl);(first|(apply OpTo_store;(iterate 3 exact rfl);exact QR;(iterate 3 exact rfl);refine ⟨Le.refl _,QN,?_⟩)|(apply OpTo_alloc;exact rfl;intro b;refine ⟨Le.refl _,QN,?_⟩)))|(apply GP_two;kernel_rfl;exact rfl;exact rfl)|(apply RealP_intro;(iterate 4 exact rfl);(first|(apply OpTo_alloc;exact rfl;intro b;refine ⟨Le.refl _,QN,?_⟩)))|(apply GP_done;kernel_rfl;exact rfl)|(apply GO_cond;exact rfl;all_goals (intro hc;try simp only [hcS,reduceCtorEq] at hc;try (exfalso;omega)))|(apply GOl_split;exact rfl;exact rfl;all_goals (intro hc;try simp only [hcS,reduceCtorEq] at hc;try (exfalso;omega)))|(apply GO_retC1;(iterate 3 exact rfl);exact QM;exact rfl;exact rfl))
    all_goals rfl
  · obtain ⟨f1,f2,_⟩:=hp.1.resolve_left h1
    obtain ⟨g1,g2,_⟩:=hp.2.resolve_left h2
    dsimp only at f1 f2 g1 g2
    have hsm:=sameSh_c h s f.sh f1.sh f2.1 t g.sh g1.sh g2.1
    obtain ⟨m,hm⟩ : ∃ m,m = max f.day g.day:=⟨_,rfl⟩
    by_cases hq : SameSh f.sh g.sh
    · have e1 : scoreV (scoreS ((s,f),(t,g))) (scoreP ((s,f),(t,g))) = scoreV s ⟨2,f.sh,m⟩:=by unfold scoreS scoreP optP;simp only [h1,h2,if_false,scoreO,if_pos hq,hm]
      rw [e1]
      rw [decide_eq_true hq] at hsm
      repeat' (first|apply GO_seq|apply GO_inBlock|apply GO_block|apply GO_region|apply GOl_nil|(apply GOl_max;(iterate 3 exact rfl);intro wn hwn)|(apply GOl_unwanted;exact rfl;exact rfl)|(apply GOl_pv;(iterate 3 exact rfl))|(apply GOl_load;exact rfl;exact Ld_blk rfl QM rfl;exact rfl;exact rfl)|(apply GOl_to;(iterate 3 exact rfl);(first|(apply OpTo_store;(iterate 3 exact rfl);exact QR;(iterate 3 exact rfl);skip)|(apply OpTo_box;exact rfl;intro b;skip)|(apply OpTo_alloc;exact rfl;intro b;skip)|(apply OpTo_val;exact rfl;exact has46;exact hsm;skip)))|(apply GO_drawp (n:=1) [0,1,4,5,6,2,3,7] [(0,0),(1,0),(2,0),(3,0),(4,2),(3,5),(5,1),(6,1),(7,1),(4,1),(6,1),(7,1)];kernel_rfl)|(apply GP_loadB;exact rfl;kernel_rfl;(iterate 3 exact rfl);exact QM;exact rfl;exact rfl)|(apply GP_ov;exact rfl;kernel_rfl;exact rfl;exact rfl;(first|(apply OV_idxA (j:=0);(iterate 6 exact rfl);exact (by decide))|(apply OV_idxA (j:=1);(iterate 6 exact rfl);exact (by decide)));exact QA)|(apply GP_real;exact rfl;kernel_rfl;(iterate 3 exact rfl);(first|(apply OpTo_store;(iterate 3 exact rfl);exact QR;(iterate 3 exact rfl);refine ⟨Le.refl _,QN,?_⟩)|(apply OpTo_alloc;exact rfl;intro b;refine ⟨Le.refl _,QN,?_⟩)))|(apply GP_two;kernel_rfl;exact rfl;exact rfl)|(apply RealP_intro;(iterate 4 exact rfl);(first|(apply OpTo_alloc;exact rfl;intro b;refine ⟨Le.refl _,QN,?_⟩)))|(apply GP_done;kernel_rfl;exact rfl)|(apply GO_cond;exact rfl;all_goals (intro hc;try simp only [hcS,reduceCtorEq] at hc;try (exfalso;omega)))|(apply GOl_split;exact rfl;exact rfl;all_goals (intro hc;try simp only [hcS,reduceCtorEq] at hc;try (exfalso;omega)))|(apply GO_retC1;(iterate 3 exact rfl);exact QM;exact rfl;exact rfl))
      all_goals
        have ew : wn = m:=by rw [hwn,hm]
        rw [ew];rfl
    · have e1 : scoreV (scoreS ((s,f),(t,g))) (scoreP ((s,f),(t,g))) = scoreV fsh0 ⟨3,sheet0,m⟩:=by unfold scoreS scoreP optP;simp only [h1,h2,if_false,scoreO,if_neg hq,hm]
      rw [e1]
      rw [decide_eq_false hq] at hsm
      repeat' (first|apply GO_seq|apply GO_inBlock|apply GO_block|apply GO_region|apply GOl_nil|(apply GOl_max;(iterate 3 exact rfl);intro wn hwn)|(apply GOl_unwanted;exact rfl;exact rfl)|(apply GOl_pv;(iterate 3 exact rfl))|(apply GOl_load;exact rfl;exact Ld_blk rfl QM rfl;exact rfl;exact rfl)|(apply GOl_to;(iterate 3 exact rfl);(first|(apply OpTo_store;(iterate 3 exact rfl);exact QR;(iterate 3 exact rfl);skip)|(apply OpTo_box;exact rfl;intro b;skip)|(apply OpTo_alloc;exact rfl;intro b;skip)|(apply OpTo_val;exact rfl;exact has46;exact hsm;skip)))|(apply GO_drawp (n:=1) [0,1,4,5,6,2,3,7] [(0,0),(1,0),(2,0),(3,0),(4,2),(3,5),(5,1),(6,1),(7,1),(4,1),(6,1),(7,1)];kernel_rfl)|(apply GP_loadB;exact rfl;kernel_rfl;(iterate 3 exact rfl);exact QM;exact rfl;exact rfl)|(apply GP_ov;exact rfl;kernel_rfl;exact rfl;exact rfl;(first|(apply OV_idxA (j:=0);(iterate 6 exact rfl);exact (by decide))|(apply OV_idxA (j:=1);(iterate 6 exact rfl);exact (by decide)));exact QA)|(apply GP_real;exact rfl;kernel_rfl;(iterate 3 exact rfl);(first|(apply OpTo_store;(iterate 3 exact rfl);exact QR;(iterate 3 exact rfl);refine ⟨Le.refl _,QN,?_⟩)|(apply OpTo_alloc;exact rfl;intro b;refine ⟨Le.refl _,QN,?_⟩)))|(apply GP_two;kernel_rfl;exact rfl;exact rfl)|(apply RealP_intro;(iterate 4 exact rfl);(first|(apply OpTo_alloc;exact rfl;intro b;refine ⟨Le.refl _,QN,?_⟩)))|(apply GP_done;kernel_rfl;exact rfl)|(apply GO_cond;exact rfl;all_goals (intro hc;try simp only [hcS,reduceCtorEq] at hc;try (exfalso;omega)))|(apply GOl_split;exact rfl;exact rfl;all_goals (intro hc;try simp only [hcS,reduceCtorEq] at hc;try (exfalso;omega)))|(apply GO_retC1;(iterate 3 exact rfl);exact QM;exact rfl;exact rfl))
      all_goals
        have ew : wn = m:=by rw [hwn,hm]
        rw [ew];rfl
theorem OV_lookP {C : Ctx} {l : Sl} {h : Ro} {ty : TypeId} {pos : String} {aft : Array Edge} {gd : Option (Nat × Bool)} {dst : Option Tmp} {t k e : TypeId} {x y : Operand} {b : Nat} {key : FGame} {m : List (FGame × Pr)} {T E : Ty} {q : Pr} (K : KeyT C.P k gameV) (hT : tyOf t C.ts = some T) (hTd : T.desc = .map k e) (hE : tyOf e C.ts = some E) (hz : E.zero = prV pr0)
    (hx : evl l x = some (.map (some b))) (hy : evl l y = some (gameV key)) (hq : q = (lookA key m).getD pr0) : OV C l [MapA gameV prV b m] h ⟨dst,.lookup t x y false,ty,pos,aft,gd⟩ (prV q):=by
  have:=OV_lookup (ev:=prV) (h:=h) (ty:=ty) (pos:=pos) (aft:=aft) (gd:=gd) (dst:=dst) (c:=false) (m:=m) (b:=b) K hT hTd hE hx hy rfl
  cases hl : lookA key m with
  | none => rw [hl] at this hq;rw [hq];rw [show prV ((none : Option Pr).getD pr0) = E.zero from hz.symm];exact this
  | some a => rw [hl] at this hq;rw [hq];exact this
def putP (m : List (FGame × Pr)) (x : Fsh × Fct) : List (FGame × Pr):=insA x.2.sh.g (takeP ((lookA x.2.sh.g m).getD pr0) x) m
def pairsV (vs : List (Fsh × Fct)) : List (FGame × Pr):=vs.foldl putP []
theorem pairsV_snoc (vs : List (Fsh × Fct)) (x : Fsh × Fct) : pairsV (vs ++ [x]) = insA x.2.sh.g (takeP ((lookA x.2.sh.g (pairsV vs)).getD pr0) x) (pairsV vs):=by unfold pairsV;rw [List.foldl_append];rfl
noncomputable def pairsL (l : List (Fsh × Fct)) : List (FGame × Pr):=pairsV (validL l)
theorem snoc_ind {α : Type} {P : List α → Prop} (h0 : P []) (h1 : ∀ l x,P l → P (l ++ [x])) (l : List α) : P l:=by
  rw [← List.reverse_reverse l]
  induction l.reverse with
  | nil => exact h0
  | cons x r ih => rw [List.reverse_cons];exact h1 _ _ ih
theorem pairsV_at {h : Ro} {vs : List (Fsh × Fct)} : (∀ x ∈ vs,FGood h x) → ∀ g,PrAt h ((lookA g (pairsV vs)).getD pr0):=by
  refine snoc_ind (P:=fun vs => (∀ x ∈ vs,FGood h x) → ∀ g,PrAt h ((lookA g (pairsV vs)).getD pr0)) (fun _ g => PrAt.zero h) (fun vs x ih hv g => ?_) vs
  rw [pairsV_snoc,look7]
  have ih:=ih fun y hy => hv y (by simp [hy])
  split
  · exact (ih _).take (hv x (by simp))
  · exact ih g
open Classical in
theorem validL_good {h : Ro} {A : Option Addr} {n : Nat} {l : List (Fsh × Fct)} (hx : FactsAt h A n l) : ∀ x ∈ validL l,FGood h x:=fun x hv => by
  unfold validL at hv
  rw [List.mem_filter,decide_eq_true_eq] at hv
  have:=hx.fat x hv.1
  exact ⟨this.1,this.2,hv.2.2,hv.2.1⟩
theorem pairs_c (h : Ro) (hG : PowG h) (A : Option Addr) (n c : Nat) (l : List (Fsh × Fct)) (hx : FactsAt h A n l) : Fn Tryz.prog 22 #[.slice A n c] [] h fun u Es h' => ∃ bm,u = .map (some bm) ∧ Es = [MapA gameV prV bm (pairsL l)]:=by
  refine Fn_intro (args:=[_]) ts_ok Go.Proofs.Tryz.func22 rfl rfl fun w0 X0 => ?_
  repeat' (first|apply GO_seq|apply GO_block|apply GO_region|apply GOl_nil|(apply GOl_pv;(iterate 3 exact rfl))|(apply GOl_to;(iterate 3 exact rfl);(first|(apply OpTo_store;(iterate 3 exact rfl);exact QR;(iterate 3 exact rfl);skip)|(apply OpTo_alloc;exact rfl;intro b;skip)|(apply OpTo_makeMap gameV prV;intro bm;skip)|(apply OpTo_res;exact rfl;exact has44;exact valid_c _ A n c;rintro vr hr1 hle1 ⟨bx,rfl,hcb⟩;skip))))
  generalize b = bT
  refine GO_take (Es':=[Blk bT 83 [.map (some bm)],MapA gameV prV bm (pairsV [])]) QT ?_
  refine GO_rangeFuncR (R:=FR) (xs:=validL l) (gf:=59) (lb:=[.pointer (some ⟨bx,0,none⟩)]) rfl rfl has59 (validSeq _ A n c l (hx.le hle1) bx hcb) (by rintro x u h2 rfl;rfl) rfl
    (fun pre Es h2 => Es = [Blk bT 83 [.map (some bm)],MapA gameV prV bm (pairsV pre)]) (fun _ _ _ _ => False)
    (fun pre Es h2 h3 hl e => e) (fun _ _ _ _ _ _ h => h.elim) rfl ?_ ?_ (fun _ _ _ _ _ _ _ _ h => h.elim)
  · rintro lid r0 w1 X1 pre x post u Es1 h1 hxe rfl rfl hle hst
    have hgood : FGood h1 x:=(validL_good hx x (by rw [hxe];simp)).le (hle1.trans hle)
    have hpr : PrAt h1 ((lookA x.2.sh.g (pairsV pre)).getD pr0):=pairsV_at (fun y hy => (validL_good hx y (by rw [hxe];simp [hy])).le (hle1.trans hle)) _
    rw [show (pairsV (pre ++ [x])) = _ from pairsV_snoc pre x]
    obtain ⟨q,hq⟩ : ∃ q,q = (lookA x.2.sh.g (pairsV pre)).getD pr0:=⟨_,rfl⟩
    rw [← hq] at hpr ⊢
    generalize pairsV pre = m at *
    repeat' (first|apply GO_inBlock|apply GO_block|apply GO_region|apply GOl_nil|(apply GO_begin;exact rfl;exact QK;exact hst)|(apply GOl_to;(iterate 3 exact rfl);(first|(apply OpTo_store;(iterate 3 exact rfl);exact QR;(iterate 3 exact rfl);skip)|(apply OpTo_alloc;exact rfl;intro b;skip)))|(apply GO_drawp (n:=4) [0,1,2,3,4,5,6,7,8,9,10,11] [(0,0),(1,0),(2,0),(3,0),(4,0),(5,0),(6,0),(7,0),(8,0),(9,0),(10,1),(11,1)];kernel_rfl)|(apply GP_pv;exact rfl;kernel_rfl;(iterate 3 exact rfl))|(apply GP_loadB;exact rfl;kernel_rfl;(iterate 3 exact rfl);exact QM;exact rfl;exact rfl)|(apply GP_ov;exact rfl;kernel_rfl;exact rfl;exact rfl;(first|(apply OV_lookP (key:=x.2.sh.g) (b:=bm) (m:=m) KG;(iterate 6 exact rfl);exact hq));exact QA)|(apply GP_real;exact rfl;kernel_rfl;(iterate 3 exact rfl);(first|(apply OpTo_res;exact rfl;exact has45;exact take_c _ (hG.le (by first|exact Le.refl _|assumption|(repeat (first|assumption|(apply Le.trans;assumption))))) q x (hpr.le (by first|exact Le.refl _|assumption|(repeat (first|assumption|(apply Le.trans;assumption))))) (hgood.le (by first|exact Le.refl _|assumption|(repeat (first|assumption|(apply Le.trans;assumption)))));rintro v2 h2 hle2 rfl;refine ⟨hle2,QN,?_⟩)|(apply OpTo_mapUpdate (ek:=gameV) (ev:=prV) (b:=bm) (m:=m) (key:=x.2.sh.g) (u:=takeP q x) KG;(iterate 6 exact rfl);exact QR;refine ⟨Le.refl _,QN,?_⟩)))|(apply GP_done;kernel_rfl;exact rfl))
    all_goals
      refine GO_take (Es':=[LoopA lid { r0 with state:=.busy },Blk bT 83 [.map (some bm)],MapA gameV prV bm (insA x.2.sh.g (takeP q x) m)]) QT (GO_rEnd (r0:=r0) rfl .here ?_)
      rfl
  · rintro D h1 Es1 hle rfl
    repeat' (first|apply GO_seq|apply GO_inBlock|apply GO_region|apply GOl_nil|(apply GOl_pv;(iterate 3 exact rfl))|(apply GOl_load;exact rfl;exact Ld_blk rfl QM rfl;exact rfl;exact rfl))
    all_goals
      refine GO_rt (Rt_mark rfl QK (Rt_S (rs:=[.tmp 2]) (vs:=[.map (some bm)]) (Fs:=[MapA gameV prV bm (pairsL l)]) rfl rfl ⟨rfl,trivial⟩ (by (repeat (first|exact List.Sublist.refl _|exact List.nil_sublist _|apply List.Sublist.cons_cons|apply List.Sublist.cons));done) ⟨bm,rfl,rfl⟩))
noncomputable def prOf (l : List (Fsh × Fct)) (g : FGame) : Pr:=(lookA g (pairsL l)).getD pr0
theorem prOf_at {h : Ro} {A : Option Addr} {n : Nat} {l : List (Fsh × Fct)} (hx : FactsAt h A n l) (g : FGame) : PrAt h (prOf l g):=pairsV_at (validL_good hx) g
theorem scoreOf_c (h : Ro) (hG : PowG h) (A : Option Addr) (n c : Nat) (l : List (Fsh × Fct)) (hx : FactsAt h A n l) (g : FGame) : Res Tryz.prog 7 #[.slice A n c,gameV g] h (fun u _ => u = scoreV (scoreS (prOf l g)) (scoreP (prOf l g))):=by
  refine Res_intro (args:=[_,_]) ts_ok Go.Proofs.Tryz.func7 rfl rfl fun w0 X0 => ?_
  have hpr:=prOf_at hx g
  obtain ⟨q,hq⟩ : ∃ q,q = prOf l g:=⟨_,rfl⟩
  rw [← hq] at hpr ⊢
  repeat' (first|apply GO_seq|apply GO_region|apply GOl_nil|(apply GOl_to;(iterate 3 exact rfl);(first|(apply OpTo_box;exact rfl;intro b;skip)|(apply OpTo_alloc;exact rfl;intro b;skip)))|(apply GO_drawp (n:=1) [0,1,2,3,4,5] [(0,0),(2,0),(1,1),(3,0),(4,1),(5,1)];kernel_rfl)|(apply GP_pv;exact rfl;kernel_rfl;(iterate 3 exact rfl))|(apply GP_loadB;exact rfl;kernel_rfl;(iterate 3 exact rfl);exact QM;exact rfl;exact rfl)|(apply GP_ov;exact rfl;kernel_rfl;exact rfl;exact rfl;(first|(apply OV_lookP (key:=g) (b:=bm) (m:=pairsL l) KG;(iterate 6 exact rfl);exact hq));exact QA)|(apply GP_real;exact rfl;kernel_rfl;(iterate 3 exact rfl);(first|(apply OpTo_store;(iterate 3 exact rfl);exact QR;(iterate 3 exact rfl);refine ⟨Le.refl _,QN,?_⟩)|(apply OpTo_callP;exact rfl;exact has22;exact pairs_c _ (hG.le (by first|exact Le.refl _|assumption|(repeat (first|assumption|(apply Le.trans;assumption))))) A n c l (hx.le (by first|exact Le.refl _|assumption|(repeat (first|assumption|(apply Le.trans;assumption)))));exact QT;rintro va Ea ha hla ⟨bm,rfl,rfl⟩;refine ⟨hla,QN,?_⟩)|(apply OpTo_val;exact rfl;exact has23;exact score_c _ q (hpr.le (by first|exact Le.refl _|assumption|(repeat (first|assumption|(apply Le.trans;assumption)))));refine ⟨Le.refl _,QN,?_⟩)))|(apply GP_done;kernel_rfl;exact rfl)|(apply GO_retRC1;(iterate 3 exact rfl);exact QM;exact rfl;exact rfl))
  all_goals rfl
end Go.Hw
set_option linter.unusedVariables false
set_option linter.unusedSimpArgs false
set_option maxRecDepth 100000
set_option maxHeartbeats 4000000
namespace Go.Hw
open Go
attribute [local irreducible] GO GOl GDp Val Fn Res CellsAt ValE Blk OwnS MapA OwnPf Has Yl RngA
open Go.Proofs (Tryz.prog ltOf)
open Go.Sort (SWO)
def LtG (a b : FGame) : Prop:=a.s < b.s ∨ (a.s = b.s ∧ (a.c < b.c ∨ (a.c = b.c ∧ (a.h < b.h ∨ (a.h = b.h ∧ a.a < b.a)))))
instance (a b : FGame) : Decidable (LtG a b):=by unfold LtG;infer_instance
theorem cmpG_lt {a b : FGame} : cmpG a b < 0 ↔ LtG a b:=by
  unfold cmpG LtG
  simp only [orL_cons,show orL [] = 0 from rfl]
  unfold cmpI
  (repeat' split) <;> omega
theorem LtG.trans {a b c : FGame} (h1 : LtG a b) (h2 : LtG b c) : LtG a c:=by unfold LtG at *;omega
theorem LtG.irrefl (a : FGame) : ¬ LtG a a:=by unfold LtG;omega
theorem LtG.tri (a b : FGame) : LtG a b ∨ a = b ∨ LtG b a:=by
  rcases a with ⟨a1,a2,a3,a4⟩;rcases b with ⟨b1,b2,b3,b4⟩
  unfold LtG
  simp only [FGame.mk.injEq]
  omega
theorem ltOfG (a b : FGame) : ltOf cmpG a b = decide (LtG a b):=by
  unfold ltOf;rw [decide_eq_decide];exact cmpG_lt
theorem swoG : SWO (ltOf cmpG) where
  irrefl x:=by rw [ltOfG];exact decide_eq_false (LtG.irrefl x)
  trans x y z h1 h2:=by rw [ltOfG,decide_eq_true_eq] at *;exact h1.trans h2
  ntrans x y z h1 h2:=by rw [ltOfG,decide_eq_false_iff_not] at *;unfold LtG at *;omega
theorem totG (x y : FGame) (h1 : ltOf cmpG x y = false) (h2 : ltOf cmpG y x = false) : x = y:=by
  rw [ltOfG,decide_eq_false_iff_not] at *
  rcases LtG.tri x y with h|h|h
  · exact absurd h h1
  · exact h
  · exact absurd h h2
def sortG (l : List FGame) : List FGame:=sortBy cmpG l
theorem sortG_perm (l : List FGame) : (sortG l).Perm l:=sortBy_perm cmpG l
theorem sortG_len (l : List FGame) : (sortG l).length = l.length:=sortBy_len cmpG l
theorem sortG_mem {l : List FGame} {g : FGame} : g ∈ sortG l ↔ g ∈ l:=(sortG_perm l).mem_iff
theorem sortG_le (l : List FGame) : (sortG l).Pairwise fun a b => ¬ LtG b a:=by
  have h:=List.pairwise_mergeSort (le:=fun x y => !(ltOf cmpG) y x) (fun a b c h1 h2 => by
    simp only [Bool.not_eq_true',ltOfG,decide_eq_false_iff_not] at *
    unfold LtG at *;omega) (fun a b => by
    simp only [Bool.or_eq_true,Bool.not_eq_true',ltOfG,decide_eq_false_iff_not]
    unfold LtG;omega) l
  refine h.imp fun {a b} q => ?_
  simpa only [Bool.not_eq_true',ltOfG,decide_eq_false_iff_not] using q
theorem sortG_lt {l : List FGame} (hn : l.Nodup) : (sortG l).Pairwise LtG:=by
  have h1:=sortG_le l
  have h2 : (sortG l).Nodup:=(sortG_perm l).nodup_iff.2 hn
  refine (List.pairwise_and_iff.2 ⟨h1,h2⟩).imp fun {a b} ⟨q1,q2⟩ => ?_
  rcases LtG.tri a b with h|h|h
  · exact h
  · exact absurd h q2
  · exact absurd h q1
theorem sortG_permG {a b : List FGame} (h : a.Perm b) : sortG a = sortG b :=
  List.Perm.eq_of_pairwise (le:=fun a b => ¬ LtG b a) (fun a b _ _ h1 h2 => by
    rcases LtG.tri a b with h|h|h
    · exact absurd h h2
    · exact h
    · exact absurd h h1) (sortG_le a) (sortG_le b) (((sortG_perm a).trans h).trans (sortG_perm b).symm)
theorem sortGames_c (e : TypeId) (v : Value) (xs : List FGame) (n : Nat) (h : Ro) (hn : n ≤ 1000000000) (hx : xs.length = n) :
    Fn Tryz.prog 47 #[v,.func (.func 25) #[] #[]] [OwnS e 4 v n (xs.flatMap gameC)] h fun u Es _ => u = .tuple #[] ∧ Es = [OwnS e 4 v n ((sortG xs).flatMap gameC)] :=
  sortFnK gameC 4 (fun _ => rfl) (by decide) cmpG
    (fun blk off cap d w hc hH hb hs => Go.Proofs.AnyQ.slices_SortFunc_total Go.Proofs.Tryz.sortGames 4 (fun w => ts_ok.run_agg (n:=28) rfl w) (fun w => ts_ok.run_size (n:=28) rfl w) gameC (fun _ => rfl) (fun x u hu => by
      simp only [gameC,List.mem_cons,List.not_mem_nil,or_false] at hu
      rcases hu with rfl|rfl|rfl|rfl <;> rfl) cmpG swoG 25 #[] blk off cap d w (Go.Proofs.enters_of Go.Proofs.Tryz.func25 (by kernel_rfl) rfl) hc hH hb hs totG)
    (fun p cap w => Go.Proofs.AnyF.slices_SortFunc_none Go.Proofs.Tryz.sortGames p cap _ w)
    (fun x y => order_c _ x y) e v xs n h hn hx
def keysOf (ok : FGame → Pr → Bool) (m : List (FGame × Pr)) : List FGame:=(m.filter fun q => ok q.1 q.2).map (·.1)
theorem keysOf_yes {ok : FGame → Pr → Bool} {out : List FGame} {r1 r2 : List (FGame × Pr)} {q : FGame × Pr} {T : List FGame} (h : (out ++ keysOf ok (r1 ++ q :: r2)).Perm T) (ho : ok q.1 q.2 = true) : ((out ++ [q.1]) ++ keysOf ok (r1 ++ r2)).Perm T:=by
  refine List.Perm.trans ?_ h
  unfold keysOf
  simp only [List.filter_append,List.filter_cons,ho,if_true,List.map_append,List.map_cons,List.append_assoc,List.singleton_append]
  exact List.Perm.append_left _ List.perm_middle.symm
theorem keysOf_no {ok : FGame → Pr → Bool} {out : List FGame} {r1 r2 : List (FGame × Pr)} {q : FGame × Pr} {T : List FGame} (h : (out ++ keysOf ok (r1 ++ q :: r2)).Perm T) (ho : ok q.1 q.2 = false) : (out ++ keysOf ok (r1 ++ r2)).Perm T:=by
  unfold keysOf at *
  simpa only [List.filter_append,List.filter_cons,ho,Bool.false_eq_true,if_false,List.map_append] using h
theorem sorted_c (h : Ro) (mb : Nat) (m : List (FGame × Pr)) (hn : m.length ≤ 1000000) (okf : Nat) (cs : List Value) (ok : FGame → Pr → Bool) (hh : Has Tryz.prog okf) (hok : ∀ h',Le h h' → ∀ q ∈ m,Val Tryz.prog okf ([gameV q.1,prV q.2] ++ cs).toArray h' (.bool (ok q.1 q.2))) :
    Fn Tryz.prog 24 #[.map (some mb),.func (.func 25) #[] #[],.func (.func okf) #[] cs.toArray] [MapA gameV prV mb m] h fun u Es h' => Es = [] ∧ ∃ A c,u = .slice A (sortG (keysOf ok m)).length c ∧ SlOf gameC 4 h' A (sortG (keysOf ok m)).length (sortG (keysOf ok m)):=by
  refine Fn_intro (args:=[_,_,_]) ts_ok Go.Proofs.Tryz.func24 rfl rfl fun w0 X0 => ?_
  repeat' (first|apply GO_seq|apply GO_block|apply GO_region|apply GOl_nil|(apply GOl_pv;(iterate 3 exact rfl))|(apply GOl_to;(iterate 3 exact rfl);(first|(apply OpTo_range (ek:=gameV) (ev:=prV);(iterate 3 exact rfl);intro rr;exact QR;intro rr;skip))))
  refine GO_nilS 28 4 ?_
  refine GO_loopT (X:=List FGame × List (FGame × Pr) × Option (FGame × Pr) × Option Addr × Nat × Ro) (fun x => Le h x.2.2.2.2.2 ∧ (x.1 ++ keysOf ok x.2.1).Perm (keysOf ok m) ∧ x.1.length + x.2.1.length ≤ m.length ∧ ∀ q ∈ x.2.1,q ∈ m) (fun x => x.2.1.length)
    (fun x => [(10,.pointer (some ⟨rr,0,none⟩)),(6,.slice x.2.2.2.1 x.1.length x.2.2.2.2.1),(1,.func (.func 25) #[] #[]),(2,.func (.func okf) #[] cs.toArray)])
    (fun x => [RngA gameV prV mb rr m x.2.1 x.2.2.1,OwnS 28 4 (.slice x.2.2.2.1 x.1.length x.2.2.2.2.1) x.1.length (x.1.flatMap gameC)]) (fun x => x.2.2.2.2.2) ([],m,none,none,0,h) ⟨Le.refl _,.refl _,by simp,fun q hq => hq⟩ QS QT rfl ?_
  rintro ⟨out,rem,cur,A9,c9,hk⟩ ⟨hlk,hI,hln,hsub⟩ ih
  dsimp only at hlk hI hln hsub ih ⊢
  repeat' (first|apply GO_seq|apply GO_skip|apply GO_inBlock|apply GO_block|apply GO_region|apply GOl_nil|(apply GO_exit;exact rfl)|(apply GOl_pv;(iterate 3 exact rfl))|(apply GOl_load;exact rfl;exact Ld_blk rfl QM rfl;exact rfl;exact rfl)|(apply GOl_ov;exact rfl;exact rfl;(first|(apply OV_entry (ek:=gameV) (ev:=prV) (b:=mb) (m:=m) (rem:=r1 ++ r2) (p:=q);exact rfl));exact QA)|(apply GOl_to;(iterate 3 exact rfl);(first|(apply OpTo_store;(iterate 3 exact rfl);exact QR;(iterate 3 exact rfl);skip)|(apply OpTo_alloc;exact rfl;intro b;skip)|(apply OpTo_next;exact rfl;intro rem' cur';exact QR;intro hrem;rotate_left;intro q r1 r2 hrem;rotate_left;all_goals skip)|(apply OpTo_valF (f:=okf) (fs:=[]) (cs:=cs);exact rfl;exact rfl;exact hh;exact hok _ (hlk.trans (by first|exact Le.refl _|assumption|(repeat (first|assumption|(apply Le.trans;assumption))))) q (hsub q (by rw [hrem];simp));skip)|(apply OpTo_callP;exact rfl;exact has47;exact sortGames_c 28 _ out out.length hk (by omega) rfl;exact QT;rintro vs Ea2 ha2 hla2 ⟨rfl,rfl⟩;skip)|(apply OpTo_buildSliceS (enc:=gameC) (n:=1) [_];(iterate 3 exact rfl);exact List.cons_ne_nil _ _;(iterate 4 exact rfl);exact fun _ => rfl;exact rfl;exact rfl;intro b1 h1 hle1 hs1;skip)|(apply OpTo_appendS (enc:=gameC) (xs:=out);(iterate 7 exact rfl);exact hs1;exact fun _ => rfl;exact fun _ => allOne_ok rfl;intro v1;exact QR;(have hq9:=congrArg List.length hrem;simp at hq9;omega);exact rfl;intro A1 c1;skip)))|(apply GO_cond;exact rfl;all_goals (intro hc;try simp only [hcS,reduceCtorEq] at hc;try (exfalso;omega))))
  · have hf:=hI
    rw [hrem] at hf
    simp only [keysOf,List.filter_nil,List.map_nil,List.append_nil] at hf
    have e:=sortG_permG hf
    have el:=sortG_len out
    rw [show (List.filter (fun q => ok q.1 q.2) m).map (·.1) = keysOf ok m from rfl] at e
    rw [e] at el ⊢
    refine GO_relC (enc:=gameC) (e:=28) (sz:=4) (n:=out.length) (xs:=sortG (keysOf ok m)) (fun _ => rfl) el QK ?_
    intro A2 c2 h2 hle2 e2 hnc2 hs2
    injection e2 with e21 _ e23
    subst e21;subst e23
    refine GO_retS1 rfl rfl rfl (List.nil_sublist _) ⟨rfl,A9,c9,?_,?_⟩
    · rw [el]
    · rw [el];exact hs2
  all_goals
    have hq9:=congrArg List.length hrem
    simp only [List.length_append,List.length_cons] at hq9
    rw [hrem] at hI hsub
    have hsub2 : ∀ q' ∈ r1 ++ r2,q' ∈ m:=fun q' hq' => hsub q' (by
      rw [List.mem_append] at hq' ⊢
      exact hq'.imp id (List.mem_cons_of_mem _))
  · have h2:=ih (out ++ [q.1],r1 ++ r2,some q,A1,c1,h1) ⟨hlk.trans hle1,keysOf_yes hI (by assumption),by simp;omega,hsub2⟩ (by simp;omega)
    dsimp only at h2
    rw [List.length_append] at h2
    refine GO_fit QS QT (h2)
  · have h2:=ih (out,r1 ++ r2,some q,A9,c9,hk) ⟨hlk,keysOf_no hI (by assumption),by simp;omega,hsub2⟩ (by simp;omega)
    refine GO_fit QS QT (h2)
theorem games1_c (h : Ro) (g : FGame) (p : Pr) (b1 b2 : Nat) (season comp : Int) (h1 : CellsAt h ⟨b1,0,none⟩ [.int .i64 season]) (h2 : CellsAt h ⟨b2,0,none⟩ [.int .i64 comp]) : Val Tryz.prog 26 #[gameV g,prV p,.pointer (some ⟨b1,0,none⟩),.pointer (some ⟨b2,0,none⟩)] h (.bool (decide (g.s = season ∧ g.c = comp))):=by
  refine Val_intro (args:=[_,_,_,_]) ts_ok Go.Proofs.Tryz.func26 rfl rfl fun w0 X0 => ?_
  repeat' (first|apply GO_seq|apply GO_region|apply GOl_nil|(apply GOl_unwanted;exact rfl;exact rfl)|(apply GOl_pv;(iterate 3 exact rfl))|(apply GOl_load;exact rfl;exact Ld_blk rfl QM rfl;exact rfl;exact rfl)|(apply GOl_ov;exact rfl;exact rfl;(first|(apply OV_load;exact rfl;first|exact Lv_ro rfl (by assumption) rfl|exact Lv_roF rfl (by assumption) rfl|exact Lv_roF2 rfl (by assumption) rfl|exact Lv_roF3 rfl (by assumption) rfl));exact QA)|(apply GOl_to;(iterate 3 exact rfl);(first|(apply OpTo_box;exact rfl;intro b;skip)))|(apply GOl_split;exact rfl;exact rfl;all_goals (intro hc;try simp only [hcS,reduceCtorEq] at hc;try (exfalso;omega))))
  all_goals (first|(apply GO_retV1;(iterate 3 exact rfl)))
  all_goals (refine dec_ofV ?_;(try simp only [eqI_t] at *);grind)
theorem insA_keysG {κ α : Type} [DecidableEq κ] (x : κ) (a : α) : ∀ (m : List (κ × α)),(insA x a m).map (·.1) = if x ∈ m.map (·.1) then m.map (·.1) else m.map (·.1) ++ [x]
  | [] => by simp [insA]
  | (y,b) :: r => by
    unfold insA
    by_cases h : y = x
    · simp [h]
    · have ih:=insA_keysG x a r
      simp only [h,if_false,List.map_cons,ih]
      by_cases h2 : x ∈ r.map (·.1)
      · simp [h2]
      · rw [if_neg h2,if_neg (by rw [List.mem_cons];rintro (e|e);exact h e.symm;exact h2 e)];rfl
theorem pairsV_nodup (vs : List (Fsh × Fct)) : ((pairsV vs).map (·.1)).Nodup:=by
  refine snoc_ind (P:=fun vs => ((pairsV vs).map (·.1)).Nodup) (by simp [pairsV]) (fun vs x ih => ?_) vs
  rw [pairsV_snoc,insA_keysG]
  split
  · exact ih
  · rename_i h
    rw [List.nodup_append]
    refine ⟨ih,by simp,fun a ha b hb => ?_⟩
    rw [List.mem_singleton] at hb
    subst hb
    exact fun e => h (e ▸ ha)
theorem pairsV_len (vs : List (Fsh × Fct)) : (pairsV vs).length ≤ vs.length:=by
  refine snoc_ind (P:=fun vs => (pairsV vs).length ≤ vs.length) (Nat.le_refl _) (fun vs x ih => ?_) vs
  have h:=congrArg List.length (insA_keysG x.2.sh.g (takeP ((lookA x.2.sh.g (pairsV vs)).getD pr0) x) (pairsV vs))
  rw [pairsV_snoc,List.length_append,List.length_singleton]
  split at h <;> simp at h <;> omega
theorem pairsV_keys {vs : List (Fsh × Fct)} {g : FGame} : g ∈ (pairsV vs).map (·.1) ↔ ∃ x ∈ vs,x.2.sh.g = g:=by
  refine snoc_ind (P:=fun vs => g ∈ (pairsV vs).map (·.1) ↔ ∃ x ∈ vs,x.2.sh.g = g) (by simp [pairsV]) (fun vs x ih => ?_) vs
  rw [pairsV_snoc,insA_keysG]
  split
  · rename_i h
    rw [ih]
    constructor
    · rintro ⟨y,h1,h2⟩;exact ⟨y,by simp [h1],h2⟩
    · rintro ⟨y,h1,h2⟩
      rw [List.mem_append,List.mem_singleton] at h1
      rcases h1 with h1|rfl
      · exact ⟨y,h1,h2⟩
      · rw [h2] at h;exact ih.1 h
  · rw [List.mem_append,ih,List.mem_singleton]
    constructor
    · rintro (⟨y,h1,h2⟩|h1)
      · exact ⟨y,by simp [h1],h2⟩
      · exact ⟨x,by simp,h1.symm⟩
    · rintro ⟨y,h1,h2⟩
      rw [List.mem_append,List.mem_singleton] at h1
      rcases h1 with h1|rfl
      · exact .inl ⟨y,h1,h2⟩
      · exact .inr h2.symm
theorem pairsL_len {h : Ro} {A : Option Addr} {n : Nat} {l : List (Fsh × Fct)} (hx : FactsAt h A n l) : (pairsL l).length ≤ 1000000:=by
  have h1:=pairsV_len (validL l)
  have h2 : (validL l).length ≤ l.length:=by unfold validL;exact List.length_filter_le _ _
  have h3:=hx.row.len
  have h4:=hx.small
  unfold pairsL;omega
noncomputable def gamesL (l : List (Fsh × Fct)) (season comp : Int) : List FGame:=sortG (keysOf (fun g _ => decide (g.s = season ∧ g.c = comp)) (pairsL l))
theorem games_c (h : Ro) (hG : PowG h) (A : Option Addr) (n c : Nat) (l : List (Fsh × Fct)) (hx : FactsAt h A n l) (season comp : Int) : Res Tryz.prog 8 #[.slice A n c,.int .i64 season,.int .i64 comp] h (fun u h' => ∃ A c,u = .slice A (gamesL l season comp).length c ∧ SlOf gameC 4 h' A (gamesL l season comp).length (gamesL l season comp)):=by
  refine Res_intro (args:=[_,_,_]) ts_ok Go.Proofs.Tryz.func8 rfl rfl fun w0 X0 => ?_
  repeat' (first|apply GO_seq|apply GO_region|apply GOl_nil|(apply GOl_pv;(iterate 3 exact rfl))|(apply GOl_to;(iterate 3 exact rfl);(first|(apply OpTo_box;exact rfl;intro b;skip)|(apply OpTo_callP;exact rfl;exact has22;exact pairs_c _ (hG.le (by first|exact Le.refl _|assumption|(repeat (first|assumption|(apply Le.trans;assumption))))) A n c l (hx.le (by first|exact Le.refl _|assumption|(repeat (first|assumption|(apply Le.trans;assumption)))));exact QT;rintro va Ea ha hla ⟨bm,rfl,rfl⟩;skip)|(refine OpTo_relB (e:=3) (cs:=[.int .i64 season]) QK ?_;intro h2 hle2 hc2;refine OpTo_relB (e:=3) (cs:=[.int .i64 comp]) QK ?_;intro h3 hle3 hc3;apply OpTo_callP;exact rfl;exact has24;exact sorted_c _ bm (pairsL l) (pairsL_len hx) 26 [_,_] (fun g _ => decide (g.s = season ∧ g.c = comp)) has26 (fun h' hl q hq => games1_c h' q.1 q.2 _ _ season comp ((hc2.le hle3).le hl) (hc3.le hl));exact QT;rintro v4 E4 h4 hla4 ⟨rfl,A4,c4,rfl,hs4⟩;skip))))
  all_goals (first|(apply GO_retR1;(iterate 3 exact rfl)))
  all_goals exact ⟨_,_,rfl,hs4⟩
end Go.Hw

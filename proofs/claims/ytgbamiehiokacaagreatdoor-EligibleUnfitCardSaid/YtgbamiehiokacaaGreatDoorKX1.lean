import Derived.Test.YtgbamiehiokacaaGreatDoorVE
import Derived.Test.YtgbamiehiokacaaGreatDoorSB
import Derived.Test.YtgbamiehiokacaaGreatDoorHwXd
import Derived.Test.YtgbamiehiokacaaGreatDoorF21
set_option linter.unusedVariables false
set_option linter.unusedSimpArgs false
set_option maxRecDepth 100000
set_option maxHeartbeats 8000000
namespace Go.Hw
open Go
attribute [local irreducible] GO GOl GDp Val Fn Res CellsAt ValE Blk OwnS MapA OwnPf Has Yl SepA forceL decC memS suspC suspN
open Go.Proofs (Tryz.prog)
theorem idxFR_c (h : Ro) (A : Option Addr) (n c : Nat) (l : List FRul) (hx : SlOf rulC 17 h A n l) (hn : n ≤ 1000000) (f : FuncId) (fs cs : List Value) (p : FRul → Bool) (hh : Has Tryz.prog f)
    (hf : ∀ x ∈ l,Val Tryz.prog f (fs ++ [rulV x] ++ cs).toArray h (.bool (p x))) :
    Val Tryz.prog 161 #[.slice A n c,.func (.func f) fs.toArray cs.toArray] h (.int .i64 (idx7 p l 0)):=by
  refine Val_intro (args:=[_,_]) ts_ok Go.Proofs.Tryz.func161 rfl rfl fun w0 X0 => ?_
  have hlen:=hx.len
  repeat' (first|apply GO_seq|apply GO_block|apply GO_region|apply GOl_nil|(apply GOl_pv;(iterate 3 exact rfl)))
  refine GO_loopT (X:=Nat) (fun k => k ≤ n ∧ idx7 p (l.drop k) k = idx7 p l 0) (fun k => n - k) (fun k => [(8,.int .i64 k),(7,.int .i64 n),(0,.slice A n c),(1,.func (.func f) fs.toArray cs.toArray)]) (fun _ => []) (fun _ => h) 0 ⟨by omega,rfl⟩ QS QT rfl ?_
  rintro k ⟨hk,hI⟩ ih
  by_cases hkn : k < n
  · have a1:=hx.addrD hkn
    have c1:=hx.cellsD rul0 hkn
    have hd:=drop7 rul0 hlen hkn
    have hv:=hf _ (mem7 rul0 (show k < l.length by omega))
    generalize l.getD k rul0 = x at *
    repeat' (first|apply GO_seq|apply GO_skip|apply GO_inBlock|apply GO_block|apply GO_region|apply GOl_nil|(apply GOl_add;(iterate 3 exact rfl);omega;exact rfl;exact rfl)|(apply GOl_pv;(iterate 3 exact rfl))|(apply GOl_ov;exact rfl;exact rfl;(first|(apply OV_idxS (j:=k);(iterate 5 exact rfl);exact a1;(with_reducible exact rfl);omega)|(apply OV_load;exact rfl;exact Lv_ro rfl c1 rfl));exact QA)|(apply GOl_to;(iterate 3 exact rfl);(first|(apply OpTo_valF (f:=f) (fs:=fs) (cs:=cs);exact rfl;exact rfl;exact hh;exact hv;skip)))|(apply GO_cond;exact rfl;all_goals (intro hc;try simp only [hcS,reduceCtorEq] at hc;try (exfalso;omega)))|(apply GO_retV1;(iterate 3 exact rfl)))
    · rw [← hI,hd,idx7,if_pos hc]
    · have h3:=ih (k + 1) ⟨by omega,by rw [← hI,hd,idx7,if_neg (by simp [hc])]⟩ (by omega)
      refine GO_fit QS QT (h3)
  · repeat' (first|apply GO_seq|apply GO_region|apply GOl_nil|(apply GO_exit;exact rfl)|(apply GOl_pv;(iterate 3 exact rfl))|(apply GO_cond;exact rfl;all_goals (intro hc;try simp only [hcS,reduceCtorEq] at hc;try (exfalso;omega)))|(apply GO_retV1;(iterate 3 exact rfl)))
    rw [← hI,show k = l.length by omega,List.drop_length];rfl
theorem conFR_c (h : Ro) (A : Option Addr) (n c : Nat) (l : List FRul) (hx : SlOf rulC 17 h A n l) (hn : n ≤ 1000000) (f : FuncId) (fs cs : List Value) (p : FRul → Bool) (hh : Has Tryz.prog f)
    (hf : ∀ x ∈ l,Val Tryz.prog f (fs ++ [rulV x] ++ cs).toArray h (.bool (p x))) :
    Val Tryz.prog 80 #[.slice A n c,.func (.func f) fs.toArray cs.toArray] h (.bool (l.any p)):=by
  refine Val_intro (args:=[_,_]) ts_ok Go.Proofs.Tryz.func80 rfl rfl fun w0 X0 => ?_
  repeat' (first|apply GO_seq|apply GO_region|apply GOl_nil|(apply GOl_pv;(iterate 3 exact rfl))|(apply GOl_to;(iterate 3 exact rfl);(first|(apply OpTo_val;exact rfl;exact has161;exact idxFR_c _ _ _ _ _ hx hn f fs cs p hh hf;skip)))|(apply GO_retV1;(iterate 3 exact rfl)))
  rw [leI_eq];congr 1;rw [Bool.eq_iff_iff,decide_eq_true_eq];exact idx7_nonneg _ _ _
theorem unfit1_c (h : Ro) (r : FRul) (b1 b2 : Nat) (pl day : Int) (h1 : CellsAt h ⟨b1,0,none⟩ [.int .i64 pl]) (h2 : CellsAt h ⟨b2,0,none⟩ [.int .i64 day]) : Val Tryz.prog 81 #[rulV r,.pointer (some ⟨b1,0,none⟩),.pointer (some ⟨b2,0,none⟩)] h (.bool (unfB pl day r)):=by
  refine Val_intro (args:=[_,_,_]) ts_ok Go.Proofs.Tryz.func81 rfl rfl fun w0 X0 => ?_
  unfold unfB
  repeat' (first|apply GO_seq|apply GO_region|apply GOl_nil|(apply GOl_unwanted;exact rfl;exact rfl)|(apply GOl_pv;(iterate 3 exact rfl))|(apply GOl_load;exact rfl;exact Ld_blk rfl QM rfl;exact rfl;exact rfl)|(apply GOl_ov;exact rfl;exact rfl;(first|(apply OV_load;exact rfl;exact Lv_ro rfl h1 rfl)|(apply OV_load;exact rfl;exact Lv_ro rfl h2 rfl));exact QA)|(apply GOl_to;(iterate 3 exact rfl);(first|(apply OpTo_box;exact rfl;intro b;skip)))|(apply GOl_split;exact rfl;exact rfl;all_goals (intro hc;try simp only [hcS,reduceCtorEq] at hc;try (exfalso;omega)))|(apply GO_retV1;(iterate 3 exact rfl)))
  all_goals (refine dec_ofV ?_;(try rw [leI_t]);grind)
theorem Unfit_c (h : Ro) (hG : PowG h) (A : Option Addr) (n c : Nat) (l : List (Fsh × Fct)) (hx : FactsAt h A n l) (pl day : Int) : Res Tryz.prog 37 #[.slice A n c,.int .i64 pl,.int .i64 day] h (fun u _ => u = .bool (unfitL (canonL (fcs l)) pl day)):=by
  refine Res_intro (args:=[_,_,_]) ts_ok Go.Proofs.Tryz.func37 rfl rfl fun w0 X0 => ?_
  have e : unfitL (canonL (fcs l)) pl day = ((forceL (canonL (fcs l))).map (·.ru)).any (unfB pl day):=rfl
  rw [e]
  obtain ⟨L,hL⟩ : ∃ L,L = (forceL (canonL (fcs l))).map (·.ru):=⟨_,rfl⟩
  have hfi:=fun h' (hl : Le h h') => InForce_c h' (hG.le hl) A n c l (hx.le hl)
  rw [← hL] at hfi ⊢
  clear hL e
  repeat' (first|apply GO_seq|apply GO_region|apply GOl_nil|(apply GOl_pv;(iterate 3 exact rfl))|(apply GOl_to;(iterate 3 exact rfl);(first|(apply OpTo_box;exact rfl;intro b;skip))))
  rename_i bp
  generalize b = bd
  refine GOl_relB (b:=bp) (e:=3) QK ?_
  intro h1 hle1 hc1
  refine GOl_relB (b:=bd) (e:=3) QK ?_
  intro h2 hle2 hc2
  repeat' (first|apply GOl_nil|(apply GOl_pv;(iterate 3 exact rfl))|(apply GOl_to;(iterate 3 exact rfl);(first|(apply OpTo_res;exact rfl;exact has22;exact hfi _ (by first|exact Le.refl _|assumption|(repeat (first|assumption|(apply Le.trans;assumption))));rintro w1 h3 hle3 ⟨A3,c3,rl,rfl,hsl,rfl,hn3⟩;skip)|(apply OpTo_val;exact rfl;exact has80;exact conFR_c _ A3 _ c3 rl hsl hn3 81 [] [.pointer (some ⟨bp,0,none⟩),.pointer (some ⟨bd,0,none⟩)] (unfB pl day) has81 (fun r _ => unfit1_c _ r bp bd pl day (hc1.le (by first|exact Le.refl _|assumption|(repeat (first|assumption|(apply Le.trans;assumption))))) (hc2.le (by first|exact Le.refl _|assumption|(repeat (first|assumption|(apply Le.trans;assumption))))));skip))))
  all_goals first
    | ((first|(apply GO_retR1;(iterate 3 exact rfl)));rfl)
def encSc (p : Fsh × FScore) : List Value:=.int .i64 p.2.kind :: (sheetC p.1 p.2.sh ++ [.int .i64 p.2.day])
theorem encSc_len (p : Fsh × FScore) : (encSc p).length = 15:=rfl
def sc0 : Fsh × FScore:=(fsh0,score0)
instance : Inhabited (Fsh × FScore):=⟨sc0⟩
def cmpS (a b : Fsh × FScore) : Int:=orL [cmpI a.2.day b.2.day,cmpI a.2.sh.g.h b.2.sh.g.h,cmpI a.2.sh.g.a b.2.sh.g.a]
theorem cmpS_lt {a b : Fsh × FScore} : cmpS a b < 0 ↔ LtS a.2 b.2:=by
  unfold cmpS LtS
  simp only [orL_cons,show orL [] = 0 from rfl]
  unfold cmpI
  (repeat' split) <;> omega
theorem ltOfS (a b : Fsh × FScore) : Go.Proofs.ltOf cmpS a b = decide (LtS a.2 b.2):=by
  unfold Go.Proofs.ltOf;rw [decide_eq_decide];exact cmpS_lt
theorem swoS : Go.Sort.SWO (Go.Proofs.ltOf cmpS) where
  irrefl x:=by rw [ltOfS];exact decide_eq_false (LtS.irrefl x.2)
  trans x y z h1 h2:=by rw [ltOfS,decide_eq_true_eq] at *;exact LtS.trans _ _ _ h1 h2
  ntrans x y z h1 h2:=by rw [ltOfS,decide_eq_false_iff_not] at *;unfold LtS at *;omega
theorem decided1_c (h : Ro) (x y : Fsh × FScore) : Res Tryz.prog 163 #[.agg (encSc x).toArray,.agg (encSc y).toArray] h (fun u _ => u = .int .i64 (cmpS x y)):=by
  refine Res_intro (args:=[_,_]) ts_ok Go.Proofs.Tryz.func163 rfl rfl fun w0 X0 => ?_
  unfold cmpS
  generalize hor : orL [cmpI x.2.day y.2.day,cmpI x.2.sh.g.h y.2.sh.g.h,cmpI x.2.sh.g.a y.2.sh.g.a] = o at *
  repeat' (first|apply GO_seq|apply GO_region|apply GOl_nil|(apply GOl_pv;(iterate 3 exact rfl))|(apply GOl_to;(iterate 3 exact rfl);(first|(apply OpTo_box;exact rfl;intro b;skip)))|(apply GO_drawp (n:=1) [0,1,2,6,7,8,3,4,5,9] [(0,0),(1,0),(2,0),(3,0),(4,0),(5,0),(6,2),(3,7),(7,1),(8,1),(9,1),(6,1),(8,1),(9,1)];kernel_rfl)|(apply GO_drawp (n:=2) [0,1,2,3,4,5,6,7,8,9,10,11,12,13,14,15,16,17] [(0,0),(1,0),(2,0),(3,0),(5,0),(6,0),(7,0),(8,0),(10,0),(11,0),(12,0),(13,0),(4,1),(9,1),(14,1),(15,1),(16,1),(17,0)];kernel_rfl)|(apply GP_pv;exact rfl;kernel_rfl;(iterate 3 exact rfl))|(apply GP_loadB;exact rfl;kernel_rfl;(iterate 3 exact rfl);exact QM;exact rfl;exact rfl)|(apply GP_real;exact rfl;kernel_rfl;(iterate 3 exact rfl);(first|(apply OpTo_store;(iterate 3 exact rfl);exact QR;(iterate 3 exact rfl);refine ⟨Le.refl _,QN,?_⟩)|(apply OpTo_alloc;exact rfl;intro b;refine ⟨Le.refl _,QN,?_⟩)|(apply OpTo_val;exact rfl;exact has71;exact cmpI7_c _ _ _;refine ⟨Le.refl _,QN,?_⟩)|(apply OpTo_buildSliceR (e:=3) (cs:=[cmpI x.2.day y.2.day,cmpI x.2.sh.g.h y.2.sh.g.h,cmpI x.2.sh.g.a y.2.sh.g.a].map fun i => .int .i64 i);(iterate 3 exact rfl);exact List.cons_ne_nil _ _;(iterate 4 exact rfl);intro b1 h1 hle1 hcs1;refine ⟨hle1,QN,?_⟩)|(apply OpTo_val;exact rfl;exact has70;(have hv7:=or7_c _ _ 3 3 [cmpI x.2.day y.2.day,cmpI x.2.sh.g.h y.2.sh.g.h,cmpI x.2.sh.g.a y.2.sh.g.a] (SlOf_ints hcs1) (by omega);rw [hor] at hv7;exact hv7);refine ⟨Le.refl _,QN,?_⟩)))|(apply GP_two;kernel_rfl;exact rfl;exact rfl)|(apply RealP_intro;(iterate 4 exact rfl);(first|(apply OpTo_alloc;exact rfl;intro b;refine ⟨Le.refl _,QN,?_⟩)))|(apply GP_done;kernel_rfl;exact rfl)|(apply GO_retR1;(iterate 3 exact rfl)))
  all_goals rfl
theorem sortSc_c (h : Ro) (v : Value) (xs : List (Fsh × FScore)) (n : Nat) (hn : n ≤ 1000000) (hx : xs.length = n) :
    Fn Tryz.prog 162 #[v,.func (.func 163) #[] #[]] [OwnS 84 15 v n (xs.flatMap encSc)] h fun u Es _ => u = .tuple #[] ∧ ∃ ys : List (Fsh × FScore),ys.Perm xs ∧ (ys.Pairwise fun x y => ¬ LtS y.2 x.2) ∧ Es = [OwnS 84 15 v n (ys.flatMap encSc)]:=by
  have hN : ∀ (p : Option Addr) (cap : Nat) (w : World),Calls Tryz.prog 162 #[.slice p 0 cap,.func (.func 163) #[] #[]] w fun e w' => e = .returned (.tuple #[]) ∧ w' = w:=fun p cap w => Go.Proofs.AnyF.slices_SortFunc_none Go.Proofs.Tryz.sortScores p cap _ w
  have hC : ∀ (blk off cap : Nat) (d : Array (Fsh × FScore)) (w : World),Go.Proofs.CmpLays Tryz.prog 163 #[] encSc 15 cmpS blk off d.size w → Go.Sort.HoldsK encSc 15 w blk off d → blk < w.heap.size → d.size < 4611686018427387904 →
      Calls Tryz.prog 162 #[.slice (some ⟨blk,off,none⟩) d.size cap,.func (.func 163) #[] #[]] w fun e w' => e = .returned (.tuple #[]) ∧ ∃ d' n os,Go.Sort.PermIn 0 d.size d d' ∧ Go.Sort.SortedIn (Go.Proofs.ltOf cmpS) 0 d.size d' ∧ w' = Go.Proofs.sortWorldK encSc 15 w blk off n d' os:=fun blk off cap d w hc hH hb hs =>
    Go.Proofs.AnyQ.slices_SortFunc Go.Proofs.Tryz.sortScores 15 (fun w => ts_ok.run_agg (n:=84) rfl w) (fun w => ts_ok.run_size (n:=84) rfl w) encSc (fun _ => rfl) (fun a => allOne_ok rfl) cmpS swoS 163 #[] blk off cap d w (Go.Proofs.enters_of Go.Proofs.Tryz.func163 (by kernel_rfl) rfl) hc hH hb hs
  have hcmp : ∀ x y : Fsh × FScore,Res Tryz.prog 163 (#[.agg (encSc x).toArray,.agg (encSc y).toArray] ++ #[]) h fun u _ => u = .int .i64 (cmpS x y):=fun x y => by
    rw [Array.append_empty]
    exact decided1_c h x y
  have key:=sortFnP (α:=Fsh × FScore) (P:=Tryz.prog) (f:=162) (gf:=163) (cb:=#[]) encSc 15 (fun _ => rfl) (by decide) cmpS h hC hN hcmp 84 v xs n (by omega) hx
  refine key.mono ?_
  rintro u Es h' hle ⟨rfl,ys,hp,hso,rfl⟩
  refine ⟨rfl,ys,hp,hso.imp fun {a b} hab => ?_,rfl⟩
  rw [ltOfS,decide_eq_false_iff_not] at hab
  exact hab
def ScAt (h : Ro) (p : Fsh × FScore) : Prop:=ShAt h p.1 p.2.sh ∧ ShSm p.2.sh
theorem ScAt.le {h h' : Ro} {p : Fsh × FScore} (a : ScAt h p) (hl : Le h h') : ScAt h' p:=⟨a.1.le hl,a.2⟩
noncomputable def agreedL (L : List Fct) (gs : List FGame) : List FScore:=(gs.map (scoreF L)).filter fun x => decide (x.kind = 2)
theorem agreedL_snoc (L : List Fct) (gs : List FGame) (g : FGame) : agreedL L (gs ++ [g]) = if (scoreF L g).kind = 2 then agreedL L gs ++ [scoreF L g] else agreedL L gs:=by
  unfold agreedL
  rw [List.map_append,List.filter_append]
  by_cases h : (scoreF L g).kind = 2 <;> simp [h]
theorem agreedL_mem {L : List Fct} {gs : List FGame} {x : FScore} : x ∈ agreedL L gs ↔ ∃ g ∈ gs,scoreF L g = x ∧ x.kind = 2:=by
  unfold agreedL
  rw [List.mem_filter,List.mem_map,decide_eq_true_eq]
  exact ⟨fun ⟨⟨g,h1,h2⟩,h3⟩ => ⟨g,h1,h2,h3⟩,fun ⟨g,h1,h2,h3⟩ => ⟨⟨g,h1,h2⟩,h3⟩⟩
theorem games_agreed {l : List (Fsh × Fct)} (h32 : In32 (fcs l)) {s c : Int} {x : FScore} : x ∈ agreedL (fcs l) (gamesL l s c) ↔ ∃ g : FGame,g.s = s ∧ g.c = c ∧ scoreF (fcs l) g = x ∧ x.kind = 2:=by
  rw [agreedL_mem]
  constructor
  · rintro ⟨g,h1,h2,h3⟩
    have:=gamesL_mem.1 h1
    exact ⟨g,this.1,this.2.1,h2,h3⟩
  · rintro ⟨g,h1,h2,rfl,h4⟩
    obtain ⟨f,m,ok,k,e,eg,d⟩:=score_agreed h32 h4
    exact ⟨g,gamesL_mem.2 ⟨h1,h2,f,m,k,ok,eg⟩,rfl,h4⟩
theorem agreedL_nodup {l : List (Fsh × Fct)} (h32 : In32 (fcs l)) (s c : Int) : (agreedL (fcs l) (gamesL l s c)).Nodup:=by
  have hn : (gamesL l s c).Nodup:=(gamesL_lt l s c).imp fun {a b} hab e => by subst e;exact LtG.irrefl _ hab
  unfold agreedL
  rw [List.filter_map]
  refine List.pairwise_map.2 ((hn.filter _).imp_of_mem fun {a b} ha hb hab e => hab ?_)
  have ka:=(List.mem_filter.1 ha).2
  have kb:=(List.mem_filter.1 hb).2
  obtain ⟨_,_,_,_,e1,g1,_⟩:=score_agreed h32 (g:=a) (by simpa using ka)
  obtain ⟨_,_,_,_,e2,g2,_⟩:=score_agreed h32 (g:=b) (by simpa using kb)
  rw [← g1,← g2,e1,e2,e]
theorem gamesL_len2 {h : Ro} {A : Option Addr} {n : Nat} {l : List (Fsh × Fct)} (hx : FactsAt h A n l) (s c : Int) : (gamesL l s c).length ≤ 1000000:=by
  unfold gamesL
  rw [sortG_len]
  unfold keysOf
  rw [List.length_map]
  exact Nat.le_trans (List.length_filter_le _ _) (pairsL_len hx)
theorem agreedL_len (L : List Fct) (gs : List FGame) : (agreedL L gs).length ≤ gs.length:=by
  unfold agreedL
  exact Nat.le_trans (List.length_filter_le _ _) (by rw [List.length_map];exact Nat.le_refl _)
theorem In32_factsX {h : Ro} {A : Option Addr} {n : Nat} {l : List (Fsh × Fct)} (hx : FactsAt h A n l) : In32 (fcs l):=fun f hf => by
  unfold fcs at hf
  obtain ⟨p,hp,rfl⟩:=List.mem_map.1 hf
  exact (hx.fat p hp).1.void
theorem decided_c (h : Ro) (hG : PowG h) (A : Option Addr) (n c : Nat) (l : List (Fsh × Fct)) (hx : FactsAt h A n l) (season comp : Int) : Res Tryz.prog 82 #[.slice A n c,.int .i64 season,.int .i64 comp] h (fun u h' => ∃ A' c' ds,u = .slice A' ds.length c' ∧ SlOf encSc 15 h' A' ds.length ds ∧ (∀ p ∈ ds,ScAt h' p) ∧ IsDec (fcs l) season comp (ds.map (·.2)) ∧ ds.length ≤ n ∧ ds.length ≤ c'):=by
  refine Res_intro (args:=[_,_,_]) ts_ok Go.Proofs.Tryz.func82 rfl rfl fun w0 X0 => ?_
  have h32:=In32_factsX hx
  have hlenL : (fcs l).length = n:=by unfold fcs;rw [List.length_map,hx.row.len]
  have hga:=fun h' (hl : Le h h') => games_c h' (hG.le hl) A n c l (hx.le hl) season comp
  have hsc:=fun h' (hl : Le h h') g => score2_c h' (hG.le hl) A n c l (hx.le hl) g
  have hgl:=gamesL_len2 hx season comp
  have hmem:=fun x => games_agreed (l:=l) h32 (s:=season) (c:=comp) (x:=x)
  have hnd:=agreedL_nodup h32 season comp
  rw [show cont l = fcs l from rfl] at hsc
  generalize gamesL l season comp = gs at *
  generalize hL : fcs l = L at *
  clear hL hx
  repeat' (first|apply GO_seq|apply GO_block|apply GO_region|apply GOl_nil|(apply GOl_pv;(iterate 3 exact rfl))|(apply GOl_to;(iterate 3 exact rfl);(first|(apply OpTo_res;exact rfl;exact has48;exact hga _ (by first|exact Le.refl _|assumption|(repeat (first|assumption|(apply Le.trans;assumption))));rintro w1 h1 hle1 ⟨A3,c3,rfl,hsl⟩;skip))))
  refine GO_nilS 84 15 ?_
  refine GO_loopT (X:=Nat × List (Fsh × FScore) × Option Addr × Nat × Ro) (fun x => x.1 ≤ gs.length ∧ Le h1 x.2.2.2.2 ∧ (∀ p ∈ x.2.1,ScAt x.2.2.2.2 p) ∧ x.2.1.map (·.2) = agreedL L (gs.take x.1)) (fun x => gs.length - x.1)
    (fun x => [(16,.int .i64 x.1),(15,.int .i64 gs.length),(14,.slice A3 gs.length c3),(7,.slice x.2.2.1 x.2.1.length x.2.2.2.1),(0,.slice A n c)])
    (fun x => [OwnS 84 15 (.slice x.2.2.1 x.2.1.length x.2.2.2.1) x.2.1.length (x.2.1.flatMap encSc)]) (fun x => x.2.2.2.2) (0,[],none,0,h1) ⟨by dsimp only;omega,Le.refl _,by simp,rfl⟩ QS QT rfl ?_
  rintro ⟨k,out,A4,c4,hh⟩ ⟨hk,hle,hat,ho⟩ ih
  dsimp only at hk hle hat ho ih ⊢
  have hol : out.length ≤ k:=by
    have q:=congrArg List.length ho
    have q2:=agreedL_len L (gs.take k)
    rw [List.length_map] at q
    rw [List.length_take] at q2
    omega
  by_cases hkn : k < gs.length
  · have a1:=hsl.addrD hkn
    have c1:=(hsl.cellsD g9 hkn).le hle
    have et:=take7 g9 (xs:=gs) rfl hkn
    generalize gs.getD k g9 = g at *
    have e0:=agreedL_snoc L (gs.take k) g
    rw [← et] at e0
    have hsg:=fun h' (hl : Le h h') => hsc h' hl g
    generalize scoreF L g = x at *
    have hle0 : Le h hh:=(by first|exact Le.refl _|assumption|(repeat (first|assumption|(apply Le.trans;assumption))))
    by_cases hk2 : x.kind = 2
    · rw [if_pos hk2,← ho] at e0
      clear hga hmem hnd
      repeat' (first|apply GO_seq|apply GO_skip|apply GO_inBlock|apply GO_block|apply GO_region|apply GOl_nil|(apply GOl_add;(iterate 3 exact rfl);omega;exact rfl;exact rfl)|(apply GOl_pv;(iterate 3 exact rfl))|(apply GOl_load;exact rfl;exact Ld_blk rfl QM rfl;exact rfl;exact rfl)|(apply GOl_ov;exact rfl;exact rfl;(first|(apply OV_idxS (j:=k);(iterate 5 exact rfl);exact a1;(with_reducible exact rfl);omega)|(apply OV_load;exact rfl;exact Lv_ro rfl c1 rfl));exact QA)|(apply GOl_to;(iterate 3 exact rfl);(first|(apply OpTo_store;(iterate 3 exact rfl);exact QR;(iterate 3 exact rfl);skip)|(apply OpTo_alloc;exact rfl;intro b;skip)|(apply OpTo_res;exact rfl;exact has46;exact hsg _ (by first|exact Le.refl _|assumption|(repeat (first|assumption|(apply Le.trans;assumption))));rintro w2 h2 hle2 ⟨s,rfl,hs1,hs2⟩;skip)|(apply OpTo_buildSliceS (enc:=encSc) (n:=1) [(s,x)];(iterate 3 exact rfl);exact List.cons_ne_nil _ _;(iterate 4 exact rfl);exact encSc_len;exact rfl;exact rfl;intro b5 h5 hle5 hs5;skip)|(apply OpTo_appendS (enc:=encSc) (xs:=out);(iterate 7 exact rfl);exact hs5;exact encSc_len;exact fun x => allOne_ok rfl;intro v1;exact QR;omega;exact rfl;intro A5 c5;skip)))|(apply GO_cond;exact rfl;all_goals (intro hc;try simp only [hcS,reduceCtorEq] at hc;try (exfalso;omega))))
      all_goals first
        | (exfalso;omega)
        | (have h3:=ih (k + 1,out ++ [(s,x)],A5,c5,h5) ⟨by dsimp only;omega,hle.trans (hle2.trans hle5),fun q hq => by
             rcases List.mem_append.1 hq with w|w
             · exact (hat q w).le (hle2.trans hle5)
             · rw [List.mem_singleton] at w;subst w;exact ⟨hs1.le hle5,hs2⟩,by dsimp only;rw [e0,List.map_append];rfl⟩ (by dsimp only;omega)
           dsimp only at h3
           rw [List.length_append] at h3
           refine GO_fit QS QT (h3))
    · rw [if_neg hk2] at e0
      clear hga hmem hnd
      repeat' (first|apply GO_seq|apply GO_skip|apply GO_inBlock|apply GO_block|apply GO_region|apply GOl_nil|(apply GOl_add;(iterate 3 exact rfl);omega;exact rfl;exact rfl)|(apply GOl_pv;(iterate 3 exact rfl))|(apply GOl_load;exact rfl;exact Ld_blk rfl QM rfl;exact rfl;exact rfl)|(apply GOl_ov;exact rfl;exact rfl;(first|(apply OV_idxS (j:=k);(iterate 5 exact rfl);exact a1;(with_reducible exact rfl);omega)|(apply OV_load;exact rfl;exact Lv_ro rfl c1 rfl));exact QA)|(apply GOl_to;(iterate 3 exact rfl);(first|(apply OpTo_store;(iterate 3 exact rfl);exact QR;(iterate 3 exact rfl);skip)|(apply OpTo_alloc;exact rfl;intro b;skip)|(apply OpTo_res;exact rfl;exact has46;exact hsg _ (by first|exact Le.refl _|assumption|(repeat (first|assumption|(apply Le.trans;assumption))));rintro w2 h2 hle2 ⟨s,rfl,hs1,hs2⟩;skip)))|(apply GO_cond;exact rfl;all_goals (intro hc;try simp only [hcS,reduceCtorEq] at hc;try (exfalso;omega))))
      all_goals first
        | (exfalso;omega)
        | (have h3:=ih (k + 1,out,A4,c4,h2) ⟨by dsimp only;omega,hle.trans hle2,fun q hq => (hat q hq).le hle2,by dsimp only;rw [e0];exact ho⟩ (by dsimp only;omega)
           dsimp only at h3
           refine GO_fit QS QT (h3))
  · rw [List.take_of_length_le (by omega)] at ho
    clear ih hsc hga
    repeat' (first|apply GO_seq|apply GO_region|apply GOl_nil|(apply GO_exit;exact rfl)|(apply GOl_pv;(iterate 3 exact rfl))|(apply GOl_to;(iterate 3 exact rfl);(first|(apply OpTo_callP;exact rfl;exact has162;exact sortSc_c _ _ out out.length (by omega) rfl;exact QT;rintro vs Es9 h9 hle9 ⟨rfl,ys,hpm,hso,rfl⟩;skip)))|(apply GO_cond;exact rfl;all_goals (intro hc;try simp only [hcS,reduceCtorEq] at hc;try (exfalso;omega))))
    all_goals (try (exfalso;omega))
    refine GO_relC (enc:=encSc) (e:=84) (sz:=15) (n:=out.length) (xs:=ys) encSc_len (hpm.length_eq) QK ?_
    intro A7 c7 h7 hle7 e7 hnc7 hs7
    cases e7
    have hdec : IsDec L season comp (ys.map (·.2)):=sorted_dec h32 (fun x => by rw [ho];exact hmem x) (by rw [ho];exact hnd) (hpm.map _) (List.pairwise_map.2 hso)
    have hyl:=hdec.len h32
    rw [List.length_map,hlenL] at hyl
    have hye:=hpm.length_eq
    rw [← hye] at hs7
    skip
    all_goals first
      | (exact GO_retR1 rfl rfl rfl ⟨A4,c4,ys,by rw [hye],hs7,fun p hp => ((hat p (hpm.mem_iff.1 hp)).le (hle9.trans hle7)),hdec,hyl,by rw [hye];exact hnc7⟩)
end Go.Hw

import Derived.Test.YtphlhpbmkejbaabGreatDoorVE
import Derived.Test.YtphlhpbmkejbaabGreatDoorSB
import Derived.Test.YtphlhpbmkejbaabGreatDoorHwXd
import Derived.Test.YtphlhpbmkejbaabGreatDoorFD
import Derived.Test.YtphlhpbmkejbaabGreatDoorHD
import Derived.Test.YtphlhpbmkejbaabGreatDoorHB
import Derived.Lib.AppendZeros
set_option linter.unusedVariables false
set_option linter.unusedSimpArgs false
set_option maxRecDepth 100000
set_option maxHeartbeats 8000000
namespace Go.Hw
open Go
attribute [local irreducible] GO GOl GDp Val Fn Res CellsAt ValE Blk OwnS MapA OwnPf Has Yl SepA forceL decC memS suspC suspN
open Go.Proofs (Tryz.prog)
theorem idxFR_c (h : Ro) (A : Option Addr) (n c : Nat) (l : List FRul) (hx : SlOf rulC 17 h A n l) (hn : n ≤ 1000000) (f : FuncId) (fs cs : List Value) (p : FRul → Bool) (hh : Has Tryz.prog f)
    (hf : ∀ x ∈ l,Val Tryz.prog f (fs ++ [rulV x] ++ cs).toArray h (.bool (p x))) :
    Val Tryz.prog 52 #[.slice A n c,.func (.func f) fs.toArray cs.toArray] h (.int .i64 (idx7 p l 0)):=by
  refine Val_intro (args:=[_,_]) ts_ok Go.Proofs.Tryz.func52 rfl rfl fun w0 X0 => ?_
  have hlen:=hx.len
  repeat' (first|apply GO_seq|apply GO_block|apply GO_region|apply GOl_nil|(apply GOl_pv;(iterate 3 exact rfl)))
  refine GO_loopT (X:=Nat) (fun k => k ≤ n ∧ idx7 p (l.drop k) k = idx7 p l 0) (fun k => n - k) (fun k => [(8,.int .i64 k),(7,.int .i64 n),(0,.slice A n c),(1,.func (.func f) fs.toArray cs.toArray)]) (fun _ => []) (fun _ => h) 0 ⟨by omega,rfl⟩ QS QT rfl ?_
  rintro k ⟨hk,hI⟩ ih
  by_cases hkn : k < n
  · have a1:=hx.addrD hkn
    have c1:=hx.cellsD rul0 hkn
    have hd:=drop7 rul0 hlen hkn
    have hv:=hf _ (mem7 rul0 (show k < l.length by omega))
    generalize l.getD k rul0 = x at *
    repeat' (first|apply GO_seq|apply GO_skip|apply GO_inBlock|apply GO_block|apply GO_region|apply GOl_nil|(apply GOl_add;(iterate 3 exact rfl);omega;exact rfl;exact rfl)|(apply GOl_pv;(iterate 3 exact rfl))|(apply GOl_ov;exact rfl;exact rfl;(first|(apply OV_idxS (j:=k);(iterate 5 exact rfl);exact a1;(with_reducible exact rfl);omega)|(apply OV_load;exact rfl;exact Lv_ro rfl c1 rfl));exact QA)|(apply GOl_to;(iterate 3 exact rfl);(first|(apply OpTo_valF (f:=f) (fs:=fs) (cs:=cs);exact rfl;exact rfl;exact hh;exact hv;skip)))|(apply GO_cond;exact rfl;all_goals (intro hc;try simp only [hcS,reduceCtorEq] at hc;try (exfalso;omega)))|(apply GO_retV1;(iterate 3 exact rfl)))
    · rw [← hI,hd,idx7,if_pos hc]
    · have h3:=ih (k + 1) ⟨by omega,by rw [← hI,hd,idx7,if_neg (by simp [hc])]⟩ (by omega)
      refine GO_fit QS QT (h3)
  · repeat' (first|apply GO_seq|apply GO_region|apply GOl_nil|(apply GO_exit;exact rfl)|(apply GOl_pv;(iterate 3 exact rfl))|(apply GO_cond;exact rfl;all_goals (intro hc;try simp only [hcS,reduceCtorEq] at hc;try (exfalso;omega)))|(apply GO_retV1;(iterate 3 exact rfl)))
    rw [← hI,show k = l.length by omega,List.drop_length];rfl
theorem conFR_c (h : Ro) (A : Option Addr) (n c : Nat) (l : List FRul) (hx : SlOf rulC 17 h A n l) (hn : n ≤ 1000000) (f : FuncId) (fs cs : List Value) (p : FRul → Bool) (hh : Has Tryz.prog f)
    (hf : ∀ x ∈ l,Val Tryz.prog f (fs ++ [rulV x] ++ cs).toArray h (.bool (p x))) :
    Val Tryz.prog 34 #[.slice A n c,.func (.func f) fs.toArray cs.toArray] h (.bool (l.any p)):=by
  refine Val_intro (args:=[_,_]) ts_ok Go.Proofs.Tryz.func34 rfl rfl fun w0 X0 => ?_
  repeat' (first|apply GO_seq|apply GO_region|apply GOl_nil|(apply GOl_pv;(iterate 3 exact rfl))|(apply GOl_to;(iterate 3 exact rfl);(first|(apply OpTo_val;exact rfl;exact has52;exact idxFR_c _ _ _ _ _ hx hn f fs cs p hh hf;skip)))|(apply GO_retV1;(iterate 3 exact rfl)))
  rw [leI_eq];congr 1;rw [Bool.eq_iff_iff,decide_eq_true_eq];exact idx7_nonneg _ _ _
theorem unfit1_c (h : Ro) (r : FRul) (b1 b2 : Nat) (pl day : Int) (h1 : CellsAt h ⟨b1,0,none⟩ [.int .i64 pl]) (h2 : CellsAt h ⟨b2,0,none⟩ [.int .i64 day]) : Val Tryz.prog 36 #[rulV r,.pointer (some ⟨b1,0,none⟩),.pointer (some ⟨b2,0,none⟩)] h (.bool (unfB pl day r)):=by
  refine Val_intro (args:=[_,_,_]) ts_ok Go.Proofs.Tryz.func36 rfl rfl fun w0 X0 => ?_
  unfold unfB
  repeat' (first|apply GO_seq|apply GO_region|apply GOl_nil|(apply GOl_unwanted;exact rfl;exact rfl)|(apply GOl_pv;(iterate 3 exact rfl))|(apply GOl_load;exact rfl;exact Ld_blk rfl QM rfl;exact rfl;exact rfl)|(apply GOl_ov;exact rfl;exact rfl;(first|(apply OV_load;exact rfl;exact Lv_ro rfl h1 rfl)|(apply OV_load;exact rfl;exact Lv_ro rfl h2 rfl));exact QA)|(apply GOl_to;(iterate 3 exact rfl);(first|(apply OpTo_box;exact rfl;intro b;skip)))|(apply GOl_split;exact rfl;exact rfl;all_goals (intro hc;try simp only [hcS,reduceCtorEq] at hc;try (exfalso;omega)))|(apply GO_retV1;(iterate 3 exact rfl)))
  all_goals (refine dec_ofV ?_;(try rw [leI_t]);grind)
theorem Unfit_c (h : Ro) (hG : PowG h) (A : Option Addr) (n c : Nat) (l : List (Fsh × Fct)) (hx : FactsAt h A n l) (pl day : Int) : Res Tryz.prog 15 #[.slice A n c,.int .i64 pl,.int .i64 day] h (fun u _ => u = .bool (unfitL (canonL (fcs l)) pl day)):=by
  refine Res_intro (args:=[_,_,_]) ts_ok Go.Proofs.Tryz.func15 rfl rfl fun w0 X0 => ?_
  have e : unfitL (canonL (fcs l)) pl day = ((forceL (canonL (fcs l))).map (·.ru)).any (unfB pl day):=rfl
  rw [e]
  obtain ⟨L,hL⟩ : ∃ L,L = (forceL (canonL (fcs l))).map (·.ru):=⟨_,rfl⟩
  have hfi:=fun h' (hl : Le h h') => InForce_c h' (hG.le hl) A n c l (hx.le hl)
  rw [← hL] at hfi ⊢
  clear hL e
  repeat' (first|apply GO_seq|apply GO_region|apply GOl_nil|(apply GOl_pv;(iterate 3 exact rfl))|(apply GOl_to;(iterate 3 exact rfl);(first|(apply OpTo_box;exact rfl;intro b;skip))))
  rename_i bp
  generalize b = bd
  refine GOl_relB (b:=bp) (e:=3) QK ?_
  intro h1 hle1 hc1
  refine GOl_relB (b:=bd) (e:=3) QK ?_
  intro h2 hle2 hc2
  repeat' (first|apply GOl_nil|(apply GOl_pv;(iterate 3 exact rfl))|(apply GOl_to;(iterate 3 exact rfl);(first|(apply OpTo_res;exact rfl;exact has35;exact hfi _ (by first|exact Le.refl _|assumption|(repeat (first|assumption|(apply Le.trans;assumption))));rintro w1 h3 hle3 ⟨A3,c3,rl,rfl,hsl,rfl,hn3⟩;skip)|(apply OpTo_val;exact rfl;exact has34;exact conFR_c _ A3 _ c3 rl hsl hn3 36 [] [.pointer (some ⟨bp,0,none⟩),.pointer (some ⟨bd,0,none⟩)] (unfB pl day) has36 (fun r _ => unfit1_c _ r bp bd pl day (hc1.le (by first|exact Le.refl _|assumption|(repeat (first|assumption|(apply Le.trans;assumption))))) (hc2.le (by first|exact Le.refl _|assumption|(repeat (first|assumption|(apply Le.trans;assumption))))));skip))))
  all_goals first
    | ((first|(apply GO_retR1;(iterate 3 exact rfl)));rfl)
def encSc (p : Fsh × FScore) : List Value:=.int .i64 p.2.kind :: (sheetC p.1 p.2.sh ++ [.int .i64 p.2.day])
theorem encSc_len (p : Fsh × FScore) : (encSc p).length = 15:=rfl
def sc0 : Fsh × FScore:=(fsh0,score0)
instance : Inhabited (Fsh × FScore):=⟨sc0⟩
def cmpS (a b : Fsh × FScore) : Int:=orL [cmpI a.2.day b.2.day,cmpI a.2.sh.g.h b.2.sh.g.h,cmpI a.2.sh.g.a b.2.sh.g.a]
theorem cmpS_lt {a b : Fsh × FScore} : cmpS a b < 0 ↔ LtS a.2 b.2:=by
  unfold cmpS LtS
  simp only [orL_cons,show orL [] = 0 from rfl]
  unfold cmpI
  (repeat' split) <;> omega
theorem ltOfS (a b : Fsh × FScore) : Go.Proofs.ltOf cmpS a b = decide (LtS a.2 b.2):=by
  unfold Go.Proofs.ltOf;rw [decide_eq_decide];exact cmpS_lt
theorem swoS : Go.Sort.SWO (Go.Proofs.ltOf cmpS) where
  irrefl x:=by rw [ltOfS];exact decide_eq_false (LtS.irrefl x.2)
  trans x y z h1 h2:=by rw [ltOfS,decide_eq_true_eq] at *;exact LtS.trans _ _ _ h1 h2
  ntrans x y z h1 h2:=by rw [ltOfS,decide_eq_false_iff_not] at *;unfold LtS at *;omega
theorem decided1_c (h : Ro) (x y : Fsh × FScore) : Res Tryz.prog 38 #[.agg (encSc x).toArray,.agg (encSc y).toArray] h (fun u _ => u = .int .i64 (cmpS x y)):=by
  refine Res_intro (args:=[_,_]) ts_ok Go.Proofs.Tryz.func38 rfl rfl fun w0 X0 => ?_
  unfold cmpS
  generalize hor : orL [cmpI x.2.day y.2.day,cmpI x.2.sh.g.h y.2.sh.g.h,cmpI x.2.sh.g.a y.2.sh.g.a] = o at *
  repeat' (first|apply GO_seq|apply GO_region|apply GOl_nil|(apply GOl_pv;(iterate 3 exact rfl))|(apply GOl_to;(iterate 3 exact rfl);(first|(apply OpTo_box;exact rfl;intro b;skip)))|(apply GO_drawp (n:=1) [0,1,2,6,7,8,3,4,5,9] [(0,0),(1,0),(2,0),(3,0),(4,0),(5,0),(6,2),(3,7),(7,1),(8,1),(9,1),(6,1),(8,1),(9,1)];kernel_rfl)|(apply GO_drawp (n:=2) [0,1,2,3,4,5,6,7,8,9,10,11,12,13,14,15,16,17] [(0,0),(1,0),(2,0),(3,0),(5,0),(6,0),(7,0),(8,0),(10,0),(11,0),(12,0),(13,0),(4,1),(9,1),(14,1),(15,1),(16,1),(17,0)];kernel_rfl)|(apply GP_pv;exact rfl;kernel_rfl;(iterate 3 exact rfl))|(apply GP_loadB;exact rfl;kernel_rfl;(iterate 3 exact rfl);exact QM;exact rfl;exact rfl)|(apply GP_real;exact rfl;kernel_rfl;(iterate 3 exact rfl);(first|(apply OpTo_store;(iterate 3 exact rfl);exact QR;(iterate 3 exact rfl);refine ⟨Le.refl _,QN,?_⟩)|(apply OpTo_alloc;exact rfl;intro b;refine ⟨Le.refl _,QN,?_⟩)|(apply OpTo_val;exact rfl;exact has40;exact cmpI7_c _ _ _;refine ⟨Le.refl _,QN,?_⟩)|(apply OpTo_buildSliceR (e:=3) (cs:=[cmpI x.2.day y.2.day,cmpI x.2.sh.g.h y.2.sh.g.h,cmpI x.2.sh.g.a y.2.sh.g.a].map fun i => .int .i64 i);(iterate 3 exact rfl);exact List.cons_ne_nil _ _;(iterate 4 exact rfl);intro b1 h1 hle1 hcs1;refine ⟨hle1,QN,?_⟩)|(apply OpTo_val;exact rfl;exact has39;(have hv7:=or7_c _ _ 3 3 [cmpI x.2.day y.2.day,cmpI x.2.sh.g.h y.2.sh.g.h,cmpI x.2.sh.g.a y.2.sh.g.a] (SlOf_ints hcs1) (by omega);rw [hor] at hv7;exact hv7);refine ⟨Le.refl _,QN,?_⟩)))|(apply GP_two;kernel_rfl;exact rfl;exact rfl)|(apply RealP_intro;(iterate 4 exact rfl);(first|(apply OpTo_alloc;exact rfl;intro b;refine ⟨Le.refl _,QN,?_⟩)))|(apply GP_done;kernel_rfl;exact rfl)|(apply GO_retR1;(iterate 3 exact rfl)))
  all_goals rfl
theorem sortSc_c (h : Ro) (v : Value) (xs : List (Fsh × FScore)) (n : Nat) (hn : n ≤ 1000000) (hx : xs.length = n) :
    Fn Tryz.prog 37 #[v,.func (.func 38) #[] #[]] [OwnS 36 15 v n (xs.flatMap encSc)] h fun u Es _ => u = .tuple #[] ∧ ∃ ys : List (Fsh × FScore),ys.Perm xs ∧ (ys.Pairwise fun x y => ¬ LtS y.2 x.2) ∧ Es = [OwnS 36 15 v n (ys.flatMap encSc)]:=by
  have hN : ∀ (p : Option Addr) (cap : Nat) (w : World),Calls Tryz.prog 37 #[.slice p 0 cap,.func (.func 38) #[] #[]] w fun e w' => e = .returned (.tuple #[]) ∧ w' = w:=fun p cap w => Go.Proofs.AnyF.slices_SortFunc_none Go.Proofs.Tryz.sortScores p cap _ w
  have hC : ∀ (blk off cap : Nat) (d : Array (Fsh × FScore)) (w : World),Go.Proofs.CmpLays Tryz.prog 38 #[] encSc 15 cmpS blk off d.size w → Go.Sort.HoldsK encSc 15 w blk off d → blk < w.heap.size → d.size < 4611686018427387904 →
      Calls Tryz.prog 37 #[.slice (some ⟨blk,off,none⟩) d.size cap,.func (.func 38) #[] #[]] w fun e w' => e = .returned (.tuple #[]) ∧ ∃ d' n os,Go.Sort.PermIn 0 d.size d d' ∧ Go.Sort.SortedIn (Go.Proofs.ltOf cmpS) 0 d.size d' ∧ w' = Go.Proofs.sortWorldK encSc 15 w blk off n d' os:=fun blk off cap d w hc hH hb hs =>
    Go.Proofs.AnyQ.slices_SortFunc Go.Proofs.Tryz.sortScores 15 (fun w => ts_ok.run_agg (n:=36) rfl w) (fun w => ts_ok.run_size (n:=36) rfl w) encSc (fun _ => rfl) (fun a => allOne_ok rfl) cmpS swoS 38 #[] blk off cap d w (Go.Proofs.enters_of Go.Proofs.Tryz.func38 (by kernel_rfl) rfl) hc hH hb hs
  have hcmp : ∀ x y : Fsh × FScore,Res Tryz.prog 38 (#[.agg (encSc x).toArray,.agg (encSc y).toArray] ++ #[]) h fun u _ => u = .int .i64 (cmpS x y):=fun x y => by
    rw [Array.append_empty]
    exact decided1_c h x y
  have key:=sortFnP (α:=Fsh × FScore) (P:=Tryz.prog) (f:=37) (gf:=38) (cb:=#[]) encSc 15 (fun _ => rfl) (by decide) cmpS h hC hN hcmp 36 v xs n (by omega) hx
  refine key.mono ?_
  rintro u Es h' hle ⟨rfl,ys,hp,hso,rfl⟩
  refine ⟨rfl,ys,hp,hso.imp fun {a b} hab => ?_,rfl⟩
  rw [ltOfS,decide_eq_false_iff_not] at hab
  exact hab
def ScAt (h : Ro) (p : Fsh × FScore) : Prop:=ShAt h p.1 p.2.sh ∧ ShSm p.2.sh
theorem ScAt.le {h h' : Ro} {p : Fsh × FScore} (a : ScAt h p) (hl : Le h h') : ScAt h' p:=⟨a.1.le hl,a.2⟩
noncomputable def agreedL (L : List Fct) (gs : List FGame) : List FScore:=(gs.map (scoreF L)).filter fun x => decide (x.kind = 2)
theorem agreedL_snoc (L : List Fct) (gs : List FGame) (g : FGame) : agreedL L (gs ++ [g]) = if (scoreF L g).kind = 2 then agreedL L gs ++ [scoreF L g] else agreedL L gs:=by
  unfold agreedL
  rw [List.map_append,List.filter_append]
  by_cases h : (scoreF L g).kind = 2 <;> simp [h]
theorem agreedL_mem {L : List Fct} {gs : List FGame} {x : FScore} : x ∈ agreedL L gs ↔ ∃ g ∈ gs,scoreF L g = x ∧ x.kind = 2:=by
  unfold agreedL
  rw [List.mem_filter,List.mem_map,decide_eq_true_eq]
  exact ⟨fun ⟨⟨g,h1,h2⟩,h3⟩ => ⟨g,h1,h2,h3⟩,fun ⟨g,h1,h2,h3⟩ => ⟨⟨g,h1,h2⟩,h3⟩⟩
theorem games_agreed {l : List (Fsh × Fct)} (h32 : In32 (fcs l)) {s c : Int} {x : FScore} : x ∈ agreedL (fcs l) (gamesL l s c) ↔ ∃ g : FGame,g.s = s ∧ g.c = c ∧ scoreF (fcs l) g = x ∧ x.kind = 2:=by
  rw [agreedL_mem]
  constructor
  · rintro ⟨g,h1,h2,h3⟩
    have:=gamesL_mem.1 h1
    exact ⟨g,this.1,this.2.1,h2,h3⟩
  · rintro ⟨g,h1,h2,rfl,h4⟩
    obtain ⟨f,m,ok,k,e,eg,d⟩:=score_agreed h32 h4
    exact ⟨g,gamesL_mem.2 ⟨h1,h2,f,m,k,ok,eg⟩,rfl,h4⟩
theorem agreedL_nodup {l : List (Fsh × Fct)} (h32 : In32 (fcs l)) (s c : Int) : (agreedL (fcs l) (gamesL l s c)).Nodup:=by
  have hn : (gamesL l s c).Nodup:=(gamesL_lt l s c).imp fun {a b} hab e => by subst e;exact LtG.irrefl _ hab
  unfold agreedL
  rw [List.filter_map]
  refine List.pairwise_map.2 ((hn.filter _).imp_of_mem fun {a b} ha hb hab e => hab ?_)
  have ka:=(List.mem_filter.1 ha).2
  have kb:=(List.mem_filter.1 hb).2
  obtain ⟨_,_,_,_,e1,g1,_⟩:=score_agreed h32 (g:=a) (by simpa using ka)
  obtain ⟨_,_,_,_,e2,g2,_⟩:=score_agreed h32 (g:=b) (by simpa using kb)
  rw [← g1,← g2,e1,e2,e]
theorem gamesL_len2 {h : Ro} {A : Option Addr} {n : Nat} {l : List (Fsh × Fct)} (hx : FactsAt h A n l) (s c : Int) : (gamesL l s c).length ≤ 1000000:=by
  unfold gamesL
  rw [sortG_len]
  unfold keysOf
  rw [List.length_map]
  exact Nat.le_trans (List.length_filter_le _ _) (pairsL_len hx)
theorem agreedL_len (L : List Fct) (gs : List FGame) : (agreedL L gs).length ≤ gs.length:=by
  unfold agreedL
  exact Nat.le_trans (List.length_filter_le _ _) (by rw [List.length_map];exact Nat.le_refl _)
theorem In32_factsX {h : Ro} {A : Option Addr} {n : Nat} {l : List (Fsh × Fct)} (hx : FactsAt h A n l) : In32 (fcs l):=fun f hf => by
  unfold fcs at hf
  obtain ⟨p,hp,rfl⟩:=List.mem_map.1 hf
  exact (hx.fat p hp).1.void
theorem decided_c (h : Ro) (hG : PowG h) (A : Option Addr) (n c : Nat) (l : List (Fsh × Fct)) (hx : FactsAt h A n l) (season comp : Int) : Res Tryz.prog 17 #[.slice A n c,.int .i64 season,.int .i64 comp] h (fun u h' => ∃ A' c' ds,u = .slice A' ds.length c' ∧ SlOf encSc 15 h' A' ds.length ds ∧ (∀ p ∈ ds,ScAt h' p) ∧ IsDec (fcs l) season comp (ds.map (·.2)) ∧ ds.length ≤ n ∧ ds.length ≤ c'):=by
  refine Res_intro (args:=[_,_,_]) ts_ok Go.Proofs.Tryz.func17 rfl rfl fun w0 X0 => ?_
  have h32:=In32_factsX hx
  have hlenL : (fcs l).length = n:=by unfold fcs;rw [List.length_map,hx.row.len]
  have hga:=fun h' (hl : Le h h') => games_c h' (hG.le hl) A n c l (hx.le hl) season comp
  have hsc:=fun h' (hl : Le h h') g => score2_c h' (hG.le hl) A n c l (hx.le hl) g
  have hgl:=gamesL_len2 hx season comp
  have hmem:=fun x => games_agreed (l:=l) h32 (s:=season) (c:=comp) (x:=x)
  have hnd:=agreedL_nodup h32 season comp
  rw [show cont l = fcs l from rfl] at hsc
  generalize gamesL l season comp = gs at *
  generalize hL : fcs l = L at *
  clear hL hx
  repeat' (first|apply GO_seq|apply GO_block|apply GO_region|apply GOl_nil|(apply GOl_pv;(iterate 3 exact rfl))|(apply GOl_to;(iterate 3 exact rfl);(first|(apply OpTo_res;exact rfl;exact has8;exact hga _ (by first|exact Le.refl _|assumption|(repeat (first|assumption|(apply Le.trans;assumption))));rintro w1 h1 hle1 ⟨A3,c3,rfl,hsl⟩;skip))))
  refine GO_nilS 36 15 ?_
  refine GO_loopT (X:=Nat × List (Fsh × FScore) × Option Addr × Nat × Ro) (fun x => x.1 ≤ gs.length ∧ Le h1 x.2.2.2.2 ∧ (∀ p ∈ x.2.1,ScAt x.2.2.2.2 p) ∧ x.2.1.map (·.2) = agreedL L (gs.take x.1)) (fun x => gs.length - x.1)
    (fun x => [(16,.int .i64 x.1),(15,.int .i64 gs.length),(14,.slice A3 gs.length c3),(7,.slice x.2.2.1 x.2.1.length x.2.2.2.1),(0,.slice A n c)])
    (fun x => [OwnS 36 15 (.slice x.2.2.1 x.2.1.length x.2.2.2.1) x.2.1.length (x.2.1.flatMap encSc)]) (fun x => x.2.2.2.2) (0,[],none,0,h1) ⟨by dsimp only;omega,Le.refl _,by simp,rfl⟩ QS QT rfl ?_
  rintro ⟨k,out,A4,c4,hh⟩ ⟨hk,hle,hat,ho⟩ ih
  dsimp only at hk hle hat ho ih ⊢
  have hol : out.length ≤ k:=by
    have q:=congrArg List.length ho
    have q2:=agreedL_len L (gs.take k)
    rw [List.length_map] at q
    rw [List.length_take] at q2
    omega
  by_cases hkn : k < gs.length
  · have a1:=hsl.addrD hkn
    have c1:=(hsl.cellsD g9 hkn).le hle
    have et:=take7 g9 (xs:=gs) rfl hkn
    generalize gs.getD k g9 = g at *
    have e0:=agreedL_snoc L (gs.take k) g
    rw [← et] at e0
    have hsg:=fun h' (hl : Le h h') => hsc h' hl g
    generalize scoreF L g = x at *
    have hle0 : Le h hh:=(by first|exact Le.refl _|assumption|(repeat (first|assumption|(apply Le.trans;assumption))))
    by_cases hk2 : x.kind = 2
    · rw [if_pos hk2,← ho] at e0
      clear hga hmem hnd
      repeat' (first|apply GO_seq|apply GO_skip|apply GO_inBlock|apply GO_block|apply GO_region|apply GOl_nil|(apply GOl_add;(iterate 3 exact rfl);omega;exact rfl;exact rfl)|(apply GOl_pv;(iterate 3 exact rfl))|(apply GOl_load;exact rfl;exact Ld_blk rfl QM rfl;exact rfl;exact rfl)|(apply GOl_ov;exact rfl;exact rfl;(first|(apply OV_idxS (j:=k);(iterate 5 exact rfl);exact a1;(with_reducible exact rfl);omega)|(apply OV_load;exact rfl;exact Lv_ro rfl c1 rfl));exact QA)|(apply GOl_to;(iterate 3 exact rfl);(first|(apply OpTo_store;(iterate 3 exact rfl);exact QR;(iterate 3 exact rfl);skip)|(apply OpTo_alloc;exact rfl;intro b;skip)|(apply OpTo_res;exact rfl;exact has7;exact hsg _ (by first|exact Le.refl _|assumption|(repeat (first|assumption|(apply Le.trans;assumption))));rintro w2 h2 hle2 ⟨s,rfl,hs1,hs2⟩;skip)|(apply OpTo_buildSliceS (enc:=encSc) (n:=1) [(s,x)];(iterate 3 exact rfl);exact List.cons_ne_nil _ _;(iterate 4 exact rfl);exact encSc_len;exact rfl;exact rfl;intro b5 h5 hle5 hs5;skip)|(apply OpTo_appendS (enc:=encSc) (xs:=out);(iterate 7 exact rfl);exact hs5;exact encSc_len;exact fun x => allOne_ok rfl;intro v1;exact QR;omega;exact rfl;intro A5 c5;skip)))|(apply GO_cond;exact rfl;all_goals (intro hc;try simp only [hcS,reduceCtorEq] at hc;try (exfalso;omega))))
      all_goals first
        | (exfalso;omega)
        | (have h3:=ih (k + 1,out ++ [(s,x)],A5,c5,h5) ⟨by dsimp only;omega,hle.trans (hle2.trans hle5),fun q hq => by
             rcases List.mem_append.1 hq with w|w
             · exact (hat q w).le (hle2.trans hle5)
             · rw [List.mem_singleton] at w;subst w;exact ⟨hs1.le hle5,hs2⟩,by dsimp only;rw [e0,List.map_append];rfl⟩ (by dsimp only;omega)
           dsimp only at h3
           rw [List.length_append] at h3
           refine GO_fit QS QT (h3))
    · rw [if_neg hk2] at e0
      clear hga hmem hnd
      repeat' (first|apply GO_seq|apply GO_skip|apply GO_inBlock|apply GO_block|apply GO_region|apply GOl_nil|(apply GOl_add;(iterate 3 exact rfl);omega;exact rfl;exact rfl)|(apply GOl_pv;(iterate 3 exact rfl))|(apply GOl_load;exact rfl;exact Ld_blk rfl QM rfl;exact rfl;exact rfl)|(apply GOl_ov;exact rfl;exact rfl;(first|(apply OV_idxS (j:=k);(iterate 5 exact rfl);exact a1;(with_reducible exact rfl);omega)|(apply OV_load;exact rfl;exact Lv_ro rfl c1 rfl));exact QA)|(apply GOl_to;(iterate 3 exact rfl);(first|(apply OpTo_store;(iterate 3 exact rfl);exact QR;(iterate 3 exact rfl);skip)|(apply OpTo_alloc;exact rfl;intro b;skip)|(apply OpTo_res;exact rfl;exact has7;exact hsg _ (by first|exact Le.refl _|assumption|(repeat (first|assumption|(apply Le.trans;assumption))));rintro w2 h2 hle2 ⟨s,rfl,hs1,hs2⟩;skip)))|(apply GO_cond;exact rfl;all_goals (intro hc;try simp only [hcS,reduceCtorEq] at hc;try (exfalso;omega))))
      all_goals first
        | (exfalso;omega)
        | (have h3:=ih (k + 1,out,A4,c4,h2) ⟨by dsimp only;omega,hle.trans hle2,fun q hq => (hat q hq).le hle2,by dsimp only;rw [e0];exact ho⟩ (by dsimp only;omega)
           dsimp only at h3
           refine GO_fit QS QT (h3))
  · rw [List.take_of_length_le (by omega)] at ho
    clear ih hsc hga
    repeat' (first|apply GO_seq|apply GO_region|apply GOl_nil|(apply GO_exit;exact rfl)|(apply GOl_pv;(iterate 3 exact rfl))|(apply GOl_to;(iterate 3 exact rfl);(first|(apply OpTo_callP;exact rfl;exact has37;exact sortSc_c _ _ out out.length (by omega) rfl;exact QT;rintro vs Es9 h9 hle9 ⟨rfl,ys,hpm,hso,rfl⟩;skip)))|(apply GO_cond;exact rfl;all_goals (intro hc;try simp only [hcS,reduceCtorEq] at hc;try (exfalso;omega))))
    all_goals (try (exfalso;omega))
    refine GO_relC (enc:=encSc) (e:=36) (sz:=15) (n:=out.length) (xs:=ys) encSc_len (hpm.length_eq) QK ?_
    intro A7 c7 h7 hle7 e7 hnc7 hs7
    cases e7
    have hdec : IsDec L season comp (ys.map (·.2)):=sorted_dec h32 (fun x => by rw [ho];exact hmem x) (by rw [ho];exact hnd) (hpm.map _) (List.pairwise_map.2 hso)
    have hyl:=hdec.len h32
    rw [List.length_map,hlenL] at hyl
    have hye:=hpm.length_eq
    rw [← hye] at hs7
    skip
    all_goals first
      | (exact GO_retR1 rfl rfl rfl ⟨A4,c4,ys,by rw [hye],hs7,fun p hp => ((hat p (hpm.mem_iff.1 hp)).le (hle9.trans hle7)),hdec,hyl,by rw [hye];exact hnc7⟩)
end Go.Hw
set_option linter.unusedVariables false
set_option linter.unusedSimpArgs false
set_option maxRecDepth 100000
set_option maxHeartbeats 8000000
namespace Go.Hw
open Go
open Go.Proofs (Tryz.prog)
theorem OpTo_appZerosG {C : Ctx} {l : Sl} {Es : List Asn} {h : Ro} {G : Value → List Asn → Ro → Prop} {ty : TypeId} {pos : String} {aft : Array Edge} {gd : Option (Nat × Bool)} {dst : Option Tmp} {t tn e : TypeId} {x y : Operand} {n : Nat} {T N E : Ty} (hT : tyOf t C.ts = some T) (hTd : T.desc = .slice e) (hN : tyOf tn C.ts = some N) (hNd : N.desc = .int .i64) (hE : tyOf e C.ts = some E) (hEz : E.zero.cells.size = E.size) (hEs : Nat.blt 0 E.size = true) (hEb : Nat.ble E.bytes 100000 = true)
    (hx : evl l x = some (.slice none 0 0)) (hy : evl l y = some (.int .i64 (n : Int))) (hn : 0 < n ∧ n ≤ 1000000000)
    (g : ∀ b c zs,n ≤ c → G (.slice (some ⟨b,0,none⟩) n c) (OwnS e E.size (.slice (some ⟨b,0,none⟩) n c) n zs :: Es) h) : OpTo C l Es h ⟨dst,.call ⟨.builtin .append,#[x,y],#[t,tn]⟩,ty,pos,aft,gd⟩ G:=fun a w hs hp => by
  obtain ⟨i,hi,hi1,hi2,hi3⟩:=C.ok.info hE
  obtain ⟨D0,hu,hb0⟩:=C.ok.und hT
  rw [hTd] at hb0;rw [blank_slice hb0] at hu
  obtain ⟨D1,hu1,hb1⟩:=C.ok.und hN
  rw [hNd] at hb1;rw [blank_int hb1] at hu1
  have hEb' : E.bytes ≤ 100000:=Nat.le_of_ble_eq_true hEb
  have hEs' : 0 < E.size:=Nat.le_of_ble_eq_true hEs
  have h48 : n * i.bytes ≤ 281474976710656:=by
    rw [hi2]
    exact Nat.le_trans (Nat.mul_le_mul hn.2 hEb') (by decide)
  have hr:=Lib.run_append_nil_zeros (P:=C.P) w t tn ty e i E.zero .i64 .i64 hu hu1 hi hi3 n hn.1 (by rw [hi1];exact hEs') (by omega) h48
  have hge:=grownCap_ge w n 0 e
  have hcm:=grownCap_le_maxLen w n 0 e (by unfold maxLen;omega)
  have hsz : ∀ m,(Builtin.zeroCells E.zero.cells m).size = m * E.size:=fun m => by unfold Builtin.zeroCells;simp [hEz]
  refine .inl ⟨_,_,_,h,by simp only [execOp,resolve,invoke,builtin,Sem.run_bind,Sem.run_pure,Result.andThen_ok,List.map_toArray,List.map_cons,List.map_nil,hs.eval hx,hs.eval hy,hr];rfl,(hp.drew).alloc (.cells (Builtin.zeroCells E.zero.cells n ++ Builtin.zeroCells E.zero.cells (grownCap w n 0 e - n)) e) (OwnS e E.size (.slice (some ⟨w.heap.size,0,none⟩) n (grownCap w n 0 e)) n (Builtin.zeroCells E.zero.cells n).toList) (fun m hm => (show (OwnS e E.size (.slice (some ⟨w.heap.size,0,none⟩) n (grownCap w n 0 e)) n (Builtin.zeroCells E.zero.cells n).toList).holds [w.heap.size] m from by exact ⟨by simp [hsz],.inr ⟨w.heap.size,grownCap w n 0 e,_,rfl,rfl,hm,hge,hcm,(by rw [Array.size_append,hsz,hsz,← Nat.add_mul];congr 1;omega),(by rw [Array.toList_append];exact List.take_left' (by simp [hsz]))⟩⟩)),g _ _ _ hge⟩
attribute [local irreducible] GO GOl GDp Val Fn Res CellsAt ValE Blk OwnS MapA OwnPf Has Yl SepA forceL decC memS suspC suspN
theorem sliceH_sameX (A : Option Addr) (c sz : Nat) : sliceH A c sz = A:=by
  unfold sliceH
  split
  · rfl
  · cases A <;> simp [Addr.add]
theorem growC_c (h : Ro) (n : Nat) (hn : n ≤ 1000000000) : Fn Tryz.prog 57 #[.slice none 0 0,.int .i64 n] [] h fun u Es _ => Es = [OwnS 90 2 u 0 []]:=by
  refine Fn_intro (args:=[_,_]) ts_ok Go.Proofs.Tryz.func57 rfl rfl fun w0 X0 => ?_
  refine GO_nilS 90 2 ?_
  by_cases h0 : n = 0
  · subst h0
    repeat' (first|apply GO_seq|apply GO_skip|apply GO_region|apply GOl_nil|(apply GOl_sub;(iterate 3 exact rfl);omega;exact rfl;exact rfl)|(apply GOl_pv;(iterate 3 exact rfl))|(apply GO_cond;exact rfl;all_goals (intro hc;try simp only [hcS,reduceCtorEq] at hc;try (exfalso;omega))))
    exact GO_retS1 rfl rfl rfl (List.Sublist.refl _) rfl
  · repeat' (first|apply GO_seq|apply GO_skip|apply GO_region|apply GOl_nil|(apply GOl_sub;(iterate 3 exact rfl);omega;exact rfl;exact rfl)|(apply GOl_pv;(iterate 3 exact rfl))|(apply GOl_ov;exact rfl;exact rfl;(first|(apply OV_sliceHi (hi:=0);(iterate 6 exact rfl);omega;omega));exact QA)|(apply GOl_to;(iterate 3 exact rfl);(first|(apply OpTo_appZerosG;(iterate 10 exact rfl);(constructor <;> omega);intro b2 c2 zs hc2;skip)))|(apply GO_cond;exact rfl;all_goals (intro hc;try simp only [hcS,reduceCtorEq] at hc;try (exfalso;omega))))
    rw [sliceH_sameX]
    refine GO_asn (A':=OwnS 90 2 (.slice (some ⟨b2,0,none⟩) 0 c2) 0 []) QR (fun D m hD => by have:=OwnS_cut (m:=0) (Nat.zero_le _) hD;rw [show ty90.size = 2 from rfl] at this;simpa using this) ?_
    exact GO_retS1 rfl rfl rfl (.cons_cons _ (List.nil_sublist _)) rfl
theorem concatC_c (h : Ro) (A B : Option Addr) (n c m d bb : Nat) (x y : List FCard) (hx : SlOf encC 2 h A n x) (hy : SlOf encC 2 h B m y) (hn : n ≤ 100000000) (hm : m ≤ 100000000) (hb : CellsAt h ⟨bb,0,none⟩ [.slice A n c,.slice B m d]) :
    Res Tryz.prog 41 #[.slice (some ⟨bb,0,none⟩) 2 2] h fun u h' => ∃ A' c',u = .slice A' (n + m) c' ∧ SlOf encC 2 h' A' (n + m) (x ++ y):=by
  refine Res_intro (args:=[_]) ts_ok Go.Proofs.Tryz.func41 rfl rfl fun w0 X0 => ?_
  have hb0:=cells_at hb (k:=0) rfl
  have hb1:=cells_at hb (k:=1) rfl
  have hxl:=hx.len
  have hyl:=hy.len
  repeat' (first|apply GO_seq|apply GO_skip|apply GO_inBlock|apply GO_block|apply GO_region|apply GOl_nil|(apply GO_exit;exact rfl)|(apply GO_loop)|(apply GO_inLoop)|(apply GOl_add;(iterate 3 exact rfl);omega;exact rfl;exact rfl)|(apply GOl_pv;(iterate 3 exact rfl))|(apply GOl_ov;exact rfl;exact rfl;(first|(apply OV_idx (j:=0);(iterate 5 exact rfl);omega;omega)|(apply OV_idx (j:=1);(iterate 5 exact rfl);omega;omega)|(apply OV_load;exact rfl;exact Lv_ro rfl (hb0.le (by first|exact Le.refl _|assumption|(repeat (first|assumption|(apply Le.trans;assumption))))) rfl)|(apply OV_load;exact rfl;exact Lv_ro rfl (hb1.le (by first|exact Le.refl _|assumption|(repeat (first|assumption|(apply Le.trans;assumption))))) rfl));exact QA)|(apply GOl_to;(iterate 3 exact rfl);(first|(apply OpTo_callP;exact rfl;exact has57;(have hg7:=growC_c h (n + m) (by omega);rw [show ((n + m : Nat) : Int) = 0 + (n : Int) + (m : Int) by omega] at hg7;exact hg7);exact QT;rintro vg Eg hg9 hlg rfl;skip)|(apply OpTo_appendS (enc:=encC) (xs:=[]) (ys:=x);(iterate 7 exact rfl);exact hx.le (by first|exact Le.refl _|assumption|(repeat (first|assumption|(apply Le.trans;assumption))));exact fun _ => rfl;exact fun _ => allOne_ok rfl;intro v1;exact QR;omega;exact rfl;intro A1 c1;skip)|(apply OpTo_appendS (enc:=encC) (xs:=[] ++ x) (ys:=y);(iterate 7 exact rfl);exact hy.le (by first|exact Le.refl _|assumption|(repeat (first|assumption|(apply Le.trans;assumption))));exact fun _ => rfl;exact fun _ => allOne_ok rfl;intro v1;exact QR;omega;exact rfl;intro A1 c1;skip)))|(apply GO_cond;exact rfl;all_goals (intro hc;try simp only [hcS,reduceCtorEq] at hc;try (exfalso;omega))))
  all_goals
    rw [List.nil_append,Nat.zero_add]
    refine GO_relC (enc:=encC) (e:=90) (sz:=2) (n:=n + m) (xs:=x ++ y) (fun _ => rfl) (by rw [List.length_append,hxl,hyl]) QK ?_
    intro A7 c7 h7 hle7 e7 hnc7 hs7
    cases e7
    exact GO_retR1 rfl rfl rfl ⟨_,_,rfl,hs7⟩
theorem OV_lookD {κ α : Type} [DecidableEq κ] {ek : κ → Value} {ev : α → Value} {z0 : α} {C : Ctx} {l : Sl} {h : Ro} {ty : TypeId} {pos : String} {aft : Array Edge} {gd : Option (Nat × Bool)} {dst : Option Tmp} {t k e : TypeId} {x y : Operand} {b : Nat} {key : κ} {m : List (κ × α)} {T E : Ty} {q : α} (K : KeyT C.P k ek) (hT : tyOf t C.ts = some T) (hTd : T.desc = .map k e) (hE : tyOf e C.ts = some E) (hz : E.zero = ev z0)
    (hx : evl l x = some (.map (some b))) (hy : evl l y = some (ek key)) (hq : (lookA key m).getD z0 = q) : OV C l [MapA ek ev b m] h ⟨dst,.lookup t x y false,ty,pos,aft,gd⟩ (ev q):=by
  have:=OV_lookup (ev:=ev) (h:=h) (ty:=ty) (pos:=pos) (aft:=aft) (gd:=gd) (dst:=dst) (c:=false) (m:=m) (b:=b) K hT hTd hE hx hy rfl
  subst hq
  cases hl : lookA key m with
  | none => rw [hl] at this;rw [show ev ((none : Option α).getD z0) = E.zero from hz.symm];exact this
  | some a => rw [hl] at this;exact this
def ekN (i : Int) : Value:=.int .i64 i
def evCd (z : Int × Bool) : Value:=.agg #[.int .i64 z.1,.bool z.2]
theorem KN : KeyT Tryz.prog 3 ekN:=K7
def cardM (m : List (Int × (Int × Bool))) (c : FCard) : List (Int × (Int × Bool)):=insA c.p (cardS c.p ((lookA c.p m).getD (0,false)) c) m
theorem cardM_look (m : List (Int × (Int × Bool))) (c : FCard) (p : Int) : (lookA p (cardM m c)).getD (0,false) = cardS p ((lookA p m).getD (0,false)) c:=by
  unfold cardM
  rw [look7]
  by_cases h : c.p = p
  · subst h;simp
  · rw [if_neg h]
    unfold cardS
    rw [if_neg h]
def cardMs (cs : List FCard) : List (Int × (Int × Bool)):=cs.foldl cardM []
theorem cardMs_snoc (cs : List FCard) (c : FCard) : cardMs (cs ++ [c]) = cardM (cardMs cs) c:=by unfold cardMs;rw [List.foldl_append];rfl
theorem cardMs_look (cs : List FCard) (p : Int) : (lookA p (cardMs cs)).getD (0,false) = cs.foldl (cardS p) (0,false):=by
  refine snocI (P:=fun cs => (lookA p (cardMs cs)).getD (0,false) = cs.foldl (cardS p) (0,false)) rfl (fun l x ih => ?_) cs
  rw [cardMs_snoc,cardM_look,ih,List.foldl_append];rfl
theorem cardMs_bd (cs : List FCard) (p : Int) : 0 ≤ ((lookA p (cardMs cs)).getD (0,false)).1 ∧ ((lookA p (cardMs cs)).getD (0,false)).1 ≤ 2:=by
  rw [cardMs_look];exact cardS_bd p cs (0,false) ⟨by decide,by decide⟩
theorem shownE_c (h : Ro) (s : Fsh) (x : FSheet) (hx : ShAt h s x) (hl : x.hc.length ≤ 1000 ∧ x.ac.length ≤ 1000) : Fn Tryz.prog 18 #[sheetV s x] [] h fun u Es h' => ∃ bm m,u = .map (some bm) ∧ Es = [MapA ekN evCd bm m] ∧ ∀ p,(lookA p m).getD (0,false) = cardsF x p:=by
  refine Fn_intro (args:=[_]) ts_ok Go.Proofs.Tryz.func18 rfl rfl fun w0 X0 => ?_
  have hn1:=hx.hc.len
  have hn2:=hx.ac.len
  obtain ⟨cs,hcs⟩ : ∃ cs,cs = x.hc ++ x.ac:=⟨_,rfl⟩
  have hcl : cs.length = s.hc.n + s.ac.n:=by rw [hcs,List.length_append,hn1,hn2]
  repeat' (first|apply GO_seq|apply GO_block|apply GO_region|apply GOl_nil|(apply GOl_pv;(iterate 3 exact rfl))|(apply GOl_load;exact rfl;exact Ld_blk rfl QM rfl;exact rfl;exact rfl)|(apply GOl_to;(iterate 3 exact rfl);(first|(apply OpTo_box;exact rfl;intro b;skip)|(apply OpTo_makeMap ekN evCd;intro bm;skip)|(apply OpTo_buildSliceR (e:=32) (cs:=[.slice s.hc.A s.hc.n s.hc.c,.slice s.ac.A s.ac.n s.ac.c]);(iterate 3 exact rfl);exact List.cons_ne_nil _ _;(iterate 4 exact rfl);intro b1 h1 hle1 hcs1;skip)|(apply OpTo_res;exact rfl;exact has41;exact concatC_c _ s.hc.A s.ac.A s.hc.n s.hc.c s.ac.n s.ac.c b1 x.hc x.ac (hx.hc.le (by first|exact Le.refl _|assumption|(repeat (first|assumption|(apply Le.trans;assumption))))) (hx.ac.le (by first|exact Le.refl _|assumption|(repeat (first|assumption|(apply Le.trans;assumption))))) (by omega) (by omega) hcs1;rintro vc h2 hle2 ⟨A2,c2,rfl,hs2⟩;skip))))
  rw [← hcs] at hs2
  have hK:=KN
  refine GO_loopT (X:=Nat) (fun k => k ≤ s.hc.n + s.ac.n) (fun k => s.hc.n + s.ac.n - k)
    (fun k => [(15,.int .i64 k),(14,.int .i64 ((s.hc.n + s.ac.n : Nat) : Int)),(13,.slice A2 (s.hc.n + s.ac.n) c2),(3,.map (some bm))])
    (fun k => [MapA ekN evCd bm (cardMs (cs.take k))]) (fun _ => h2) 0 (by omega) QS QT rfl ?_
  rintro k hk ih
  by_cases hkn : k < s.hc.n + s.ac.n
  · have a1:=hs2.addrD hkn
    have c1:=hs2.cellsD card0 hkn
    have et:=take7 card0 (xs:=cs) hcl hkn
    generalize cs.getD k card0 = z at *
    have hsn:=cardMs_snoc (cs.take k) z
    have hbd:=cardMs_bd (cs.take k) z.p
    rw [← et] at hsn
    have h3:=ih (k + 1) (by omega) (by omega)
    rw [hsn] at h3
    generalize cardMs (cs.take k) = m at *
    unfold cardM at h3
    obtain ⟨q,hq⟩ : ∃ q,(lookA z.p m).getD (0,false) = q:=⟨_,rfl⟩
    rw [hq] at h3 hbd
    unfold cardS at h3
    rw [if_pos rfl] at h3
    obtain ⟨zp,zr⟩:=z
    obtain ⟨q1,q2⟩:=q
    dsimp only at hq hbd h3 a1 c1
    cases zr
    · rw [if_neg (by decide)] at h3
      repeat' (first|apply GO_seq|apply GO_skip|apply GO_inBlock|apply GO_block|apply GO_region|apply GOl_nil|(apply GOl_min;(iterate 3 exact rfl);intro wn hwn)|(apply GOl_add;(iterate 3 exact rfl);omega;exact rfl;exact rfl)|(apply GOl_pv;(iterate 3 exact rfl))|(apply GOl_load;exact rfl;exact Ld_blk rfl QM rfl;exact rfl;exact rfl)|(apply GOl_ov;exact rfl;exact rfl;(first|(apply OV_idxS (j:=k);(iterate 5 exact rfl);exact a1;(with_reducible exact rfl);omega)|(apply OV_load;exact rfl;exact Lv_ro rfl c1 rfl)|(apply OV_lookD (ek:=ekN) (ev:=evCd) (z0:=(0,false)) (key:=zp) (b:=bm) (m:=m) hK;(iterate 6 exact rfl);exact hq));exact QA)|(apply GOl_to;(iterate 3 exact rfl);(first|(apply OpTo_store;(iterate 3 exact rfl);exact QR;(iterate 3 exact rfl);skip)|(apply OpTo_alloc;exact rfl;intro b;skip)|(apply OpTo_mapUpdate (ek:=ekN) (ev:=evCd) (b:=bm) (m:=m) (key:=zp) (u:=(min 2 (q1 + 1),q2)) hK;(iterate 5 exact rfl);rw [hwn];exact rfl;exact QR;skip)))|(apply GO_cond;exact rfl;all_goals (intro hc;try simp only [hcS,reduceCtorEq] at hc;try (exfalso;omega))))
      all_goals first
        | (exfalso;omega)
        | (exfalso;simp at hc;done)
        | (refine GO_fit QS QT (h3))
    · rw [if_pos rfl] at h3
      repeat' (first|apply GO_seq|apply GO_skip|apply GO_inBlock|apply GO_block|apply GO_region|apply GOl_nil|(apply GOl_add;(iterate 3 exact rfl);omega;exact rfl;exact rfl)|(apply GOl_pv;(iterate 3 exact rfl))|(apply GOl_load;exact rfl;exact Ld_blk rfl QM rfl;exact rfl;exact rfl)|(apply GOl_ov;exact rfl;exact rfl;(first|(apply OV_idxS (j:=k);(iterate 5 exact rfl);exact a1;(with_reducible exact rfl);omega)|(apply OV_load;exact rfl;exact Lv_ro rfl c1 rfl)|(apply OV_lookD (ek:=ekN) (ev:=evCd) (z0:=(0,false)) (key:=zp) (b:=bm) (m:=m) hK;(iterate 6 exact rfl);exact hq));exact QA)|(apply GOl_to;(iterate 3 exact rfl);(first|(apply OpTo_store;(iterate 3 exact rfl);exact QR;(iterate 3 exact rfl);skip)|(apply OpTo_alloc;exact rfl;intro b;skip)|(apply OpTo_mapUpdate (ek:=ekN) (ev:=evCd) (b:=bm) (m:=m) (key:=zp) (u:=(q1,true)) hK;(iterate 6 exact rfl);exact QR;skip)))|(apply GO_cond;exact rfl;all_goals (intro hc;try simp only [hcS,reduceCtorEq] at hc;try (exfalso;omega))))
      all_goals first
        | (exfalso;omega)
        | (exfalso;simp at hc;done)
        | (refine GO_fit QS QT (h3))
  · rw [List.take_of_length_le (by omega)]
    clear ih
    repeat' (first|apply GO_seq|apply GO_region|apply GOl_nil|(apply GO_exit;exact rfl)|(apply GOl_pv;(iterate 3 exact rfl))|(apply GO_cond;exact rfl;all_goals (intro hc;try simp only [hcS,reduceCtorEq] at hc;try (exfalso;omega))))
    all_goals first
      | (exfalso;omega)
      | (exact GO_retS1 rfl rfl rfl (by (repeat (first|exact List.Sublist.refl _|exact List.nil_sublist _|apply List.Sublist.cons_cons|apply List.Sublist.cons));done) ⟨bm,cardMs cs,rfl,rfl,fun p => by rw [cardMs_look,hcs];rfl⟩)
def encM2 (m : Int × Int) : List Value:=[.int .i64 m.1,.int .i64 m.2]
def m0 : Int × Int:=(0,0)
theorem members1_c (h : Ro) (x y : Int × Int) : Val Tryz.prog 43 #[.agg (encM2 x).toArray,.agg (encM2 y).toArray] h (.int .i64 (cmpI x.1 y.1)):=by
  refine Val_intro (args:=[_,_]) ts_ok Go.Proofs.Tryz.func43 rfl rfl fun w0 X0 => ?_
  repeat' (first|apply GO_seq|apply GO_region|apply GOl_nil|(apply GOl_pv;(iterate 3 exact rfl))|(apply GOl_load;exact rfl;exact Ld_blk rfl QM rfl;exact rfl;exact rfl)|(apply GOl_to;(iterate 3 exact rfl);(first|(apply OpTo_box;exact rfl;intro b;skip)|(apply OpTo_val;exact rfl;exact has40;exact cmpI7_c _ _ _;skip)))|(apply GO_retV1;(iterate 3 exact rfl)))
  all_goals rfl
theorem ltOfM (x y : Int × Int) : Go.Proofs.ltOf (fun (x y : Int × Int) => cmpI x.1 y.1) x y = decide (x.1 < y.1):=by
  unfold Go.Proofs.ltOf
  rw [decide_eq_decide];exact cmpI_lt
theorem cmpM_swo : Go.Sort.SWO (Go.Proofs.ltOf fun (x y : Int × Int) => cmpI x.1 y.1) where
  irrefl x:=by rw [ltOfM,decide_eq_false_iff_not];omega
  trans x y z h1 h2:=by rw [ltOfM,decide_eq_true_eq] at *;omega
  ntrans x y z h1 h2:=by rw [ltOfM,decide_eq_false_iff_not] at *;omega
theorem sortM_c (h : Ro) (v : Value) (xs : List (Int × Int)) (n : Nat) (hn : n ≤ 1000000) (hx : xs.length = n) :
    Fn Tryz.prog 42 #[v,.func (.func 43) #[] #[]] [OwnS 76 2 v n (xs.flatMap encM2)] h fun u Es _ => u = .tuple #[] ∧ ∃ ys : List (Int × Int),ys.Perm xs ∧ (ys.Pairwise fun x y => x.1 ≤ y.1) ∧ Es = [OwnS 76 2 v n (ys.flatMap encM2)]:=by
  have hN : ∀ (p : Option Addr) (cap : Nat) (w : World),Calls Tryz.prog 42 #[.slice p 0 cap,.func (.func 43) #[] #[]] w fun e w' => e = .returned (.tuple #[]) ∧ w' = w:=fun p cap w => Go.Proofs.AnyF.slices_SortFunc_none Go.Proofs.Tryz.sortMembers p cap _ w
  have hC : ∀ (blk off cap : Nat) (d : Array (Int × Int)) (w : World),Go.Proofs.CmpLays Tryz.prog 43 #[] encM2 2 (fun x y => cmpI x.1 y.1) blk off d.size w → Go.Sort.HoldsK encM2 2 w blk off d → blk < w.heap.size → d.size < 4611686018427387904 →
      Calls Tryz.prog 42 #[.slice (some ⟨blk,off,none⟩) d.size cap,.func (.func 43) #[] #[]] w fun e w' => e = .returned (.tuple #[]) ∧ ∃ d' n os,Go.Sort.PermIn 0 d.size d d' ∧ Go.Sort.SortedIn (Go.Proofs.ltOf fun (x y : Int × Int) => cmpI x.1 y.1) 0 d.size d' ∧ w' = Go.Proofs.sortWorldK encM2 2 w blk off n d' os:=fun blk off cap d w hc hH hb hs =>
    Go.Proofs.AnyQ.slices_SortFunc Go.Proofs.Tryz.sortMembers 2 (fun w => ts_ok.run_agg (n:=76) rfl w) (fun w => ts_ok.run_size (n:=76) rfl w) encM2 (fun _ => rfl) (fun a => allOne_ok rfl) (fun x y => cmpI x.1 y.1) cmpM_swo 43 #[] blk off cap d w (Go.Proofs.enters_of Go.Proofs.Tryz.func43 (by kernel_rfl) rfl) hc hH hb hs
  have hcmp : ∀ x y : Int × Int,Res Tryz.prog 43 (#[.agg (encM2 x).toArray,.agg (encM2 y).toArray] ++ #[]) h fun u _ => u = .int .i64 (cmpI x.1 y.1):=fun x y => by
    rw [Array.append_empty]
    exact Res_of_val (members1_c h x y)
  have key:=sortFnP (α:=Int × Int) (P:=Tryz.prog) (f:=42) (gf:=43) (cb:=#[]) encM2 2 (fun _ => rfl) (by decide) (fun x y => cmpI x.1 y.1) h hC hN hcmp 76 v xs n (by omega) hx
  refine key.mono ?_
  rintro u Es h' hle ⟨rfl,ys,hp,hso,rfl⟩
  refine ⟨rfl,ys,hp,hso.imp fun {a b} hab => ?_,rfl⟩
  rw [ltOfM,decide_eq_false_iff_not] at hab
  omega
def memU (x : FSheet) : List (Int × Int):=x.hs.map (fun p => (p,x.g.h)) ++ x.asn.map fun p => (p,x.g.a)
theorem sorted_mem {x : FSheet} (hx : SheetOk x) {ys : List (Int × Int)} (hp : ys.Perm (memU x)) (hs : ys.Pairwise fun a b => a.1 ≤ b.1) : IsMem x ys:=by
  obtain ⟨_,_,_,_,_,h1,h2,_,_,h3⟩:=hx
  have hn : ((memU x).map (·.1)).Nodup:=by
    unfold memU
    rw [List.map_append,List.map_map,List.map_map]
    refine List.nodup_append.2 ⟨?_,?_,?_⟩
    · rw [show x.hs.map ((fun m : Int × Int => m.1) ∘ fun p => (p,x.g.h)) = x.hs by simp [Function.comp_def]]
      exact h1.2.2.imp fun {a b} hab e => by omega
    · rw [show x.asn.map ((fun m : Int × Int => m.1) ∘ fun p => (p,x.g.a)) = x.asn by simp [Function.comp_def]]
      exact h2.2.2.imp fun {a b} hab e => by omega
    · intro a ha b hb e
      simp only [Function.comp_def,List.map_id'] at ha hb
      subst e
      exact h3 a ha hb
  have hn2 : (ys.map (·.1)).Nodup:=(hp.map _).nodup_iff.2 hn
  refine ⟨?_,fun m => ?_⟩
  · have h5 : ys.Pairwise fun a b => a.1 ≠ b.1:=List.pairwise_map.1 hn2
    exact (List.pairwise_and_iff.2 ⟨hs,h5⟩).imp fun {a b} ⟨q1,q2⟩ => by omega
  · rw [hp.mem_iff]
    unfold memU
    rw [List.mem_append,List.mem_map,List.mem_map]
    obtain ⟨a,b⟩:=m
    constructor
    · rintro (⟨p,q,e⟩|⟨p,q,e⟩)
      · cases e;exact .inl ⟨q,rfl⟩
      · cases e;exact .inr ⟨q,rfl⟩
    · rintro (⟨q,e⟩|⟨q,e⟩)
      · dsimp only at q e;subst e;exact .inl ⟨a,q,rfl⟩
      · dsimp only at q e;subst e;exact .inr ⟨a,q,rfl⟩
theorem members_c (h : Ro) (s : Fsh) (x : FSheet) (hx : ShAt h s x) (hok : SheetOk x) : Res Tryz.prog 19 #[sheetV s x] h fun u h' => ∃ A' c',u = .slice A' (memS x).length c' ∧ SlOf encM2 2 h' A' (memS x).length (memS x) ∧ IsMem x (memS x):=by
  refine Res_intro (args:=[_]) ts_ok Go.Proofs.Tryz.func19 rfl rfl fun w0 X0 => ?_
  have hn1:=hx.hs.len
  have hn2:=hx.asn.len
  obtain ⟨l1,l2⟩ : x.hs.length ≤ 40 ∧ x.asn.length ≤ 40:=⟨hok.2.2.2.2.2.1.1,hok.2.2.2.2.2.2.1.1⟩
  have hh:=hx.hs
  have ha:=hx.asn
  repeat' (first|apply GO_seq|apply GO_block|apply GO_region|apply GOl_nil|(apply GOl_pv;(iterate 3 exact rfl))|(apply GOl_load;exact rfl;exact Ld_blk rfl QM rfl;exact rfl;exact rfl)|(apply GOl_to;(iterate 3 exact rfl);(first|(apply OpTo_box;exact rfl;intro b;skip))))
  generalize b = b1
  refine GO_nilS 76 2 ?_
  refine GO_loopT (X:=Nat × Option Addr × Nat × Ro) (fun y => y.1 ≤ s.hs.n ∧ Le h y.2.2.2) (fun y => s.hs.n - y.1)
    (fun y => [(10,.int .i64 y.1),(9,.int .i64 s.hs.n),(8,.slice s.hs.A s.hs.n s.hs.c),(2,.slice y.2.1 y.1 y.2.2.1),(1,ptrV b1)])
    (fun y => [Blk b1 34 (sheetC s x),OwnS 76 2 (.slice y.2.1 y.1 y.2.2.1) y.1 (((x.hs.take y.1).map (fun p => (p,x.g.h))).flatMap encM2)]) (fun y => y.2.2.2) (0,none,0,h) ⟨by dsimp only;omega,Le.refl _⟩ QS QT rfl ?_
  rintro ⟨k,A4,c4,hk4⟩ ⟨hk,hle⟩ ih
  dsimp only at hk hle ih ⊢
  by_cases hkn : k < s.hs.n
  · have a1:=hh.addrD hkn
    have c1:=(hh.cellsD 0 hkn).le hle
    have et:=take7 0 (xs:=x.hs) hn1 hkn
    generalize x.hs.getD k 0 = p at *
    repeat' (first|apply GO_seq|apply GO_skip|apply GO_inBlock|apply GO_block|apply GO_region|apply GOl_nil|(apply GOl_add;(iterate 3 exact rfl);omega;exact rfl;exact rfl)|(apply GOl_pv;(iterate 3 exact rfl))|(apply GOl_load;exact rfl;exact Ld_blk rfl QM rfl;exact rfl;exact rfl)|(apply GOl_ov;exact rfl;exact rfl;(first|(apply OV_idxS (j:=k);(iterate 5 exact rfl);exact a1;(with_reducible exact rfl);omega)|(apply OV_load;exact rfl;exact Lv_ro rfl c1 rfl));exact QA)|(apply GOl_to;(iterate 3 exact rfl);(first|(apply OpTo_buildSliceS (enc:=encM2) (n:=1) [(p,x.g.h)];(iterate 3 exact rfl);exact List.cons_ne_nil _ _;(iterate 4 exact rfl);exact fun _ => rfl;exact rfl;exact rfl;intro b5 h5 hle5 hs5;skip)|(apply OpTo_appendS (enc:=encM2) (xs:=(x.hs.take k).map (fun p => (p,x.g.h)));(iterate 7 exact rfl);exact hs5;exact fun _ => rfl;exact fun x => allOne_ok rfl;intro v1;exact QR;omega;exact rfl;intro A5 c5;skip)))|(apply GO_cond;exact rfl;all_goals (intro hc;try simp only [hcS,reduceCtorEq] at hc;try (exfalso;omega))))
    all_goals first
      | (exfalso;omega)
      | (have h3:=ih (k + 1,A5,c5,h5) ⟨by dsimp only;omega,hle.trans hle5⟩ (by dsimp only;omega)
         dsimp only at h3
         rw [et,List.map_append] at h3
         refine GO_fit QS QT (h3))
  · rw [List.take_of_length_le (by omega)]
    have ek : k = s.hs.n:=by omega
    subst ek
    clear ih
    repeat' (first|apply GO_seq|apply GO_block|apply GO_region|apply GOl_nil|(apply GO_exit;exact rfl)|(apply GOl_pv;(iterate 3 exact rfl))|(apply GOl_load;exact rfl;exact Ld_blk rfl QM rfl;exact rfl;exact rfl)|(apply GO_cond;exact rfl;all_goals (intro hc;try simp only [hcS,reduceCtorEq] at hc;try (exfalso;omega))))
    all_goals (try (exfalso;omega))
    refine GO_loopT (X:=Nat × Option Addr × Nat × Ro) (fun y => y.1 ≤ s.asn.n ∧ Le hk4 y.2.2.2) (fun y => s.asn.n - y.1)
      (fun y => [(26,.int .i64 y.1),(25,.int .i64 s.asn.n),(24,.slice s.asn.A s.asn.n s.asn.c),(2,.slice y.2.1 (s.hs.n + y.1) y.2.2.1),(1,ptrV b1)])
      (fun y => [Blk b1 34 (sheetC s x),OwnS 76 2 (.slice y.2.1 (s.hs.n + y.1) y.2.2.1) (s.hs.n + y.1) ((x.hs.map (fun p => (p,x.g.h)) ++ (x.asn.take y.1).map (fun p => (p,x.g.a))).flatMap encM2)]) (fun y => y.2.2.2) (0,A4,c4,hk4) ⟨by dsimp only;omega,Le.refl _⟩ QS (by rw [List.take_zero,List.map_nil,List.append_nil];exact QT) rfl ?_
    rintro ⟨k,A6,c6,hk6⟩ ⟨hk,hle2⟩ ih
    dsimp only at hk hle2 ih ⊢
    by_cases hkn : k < s.asn.n
    · have a1:=ha.addrD hkn
      have c1:=(ha.cellsD 0 hkn).le (hle.trans hle2)
      have et:=take7 0 (xs:=x.asn) hn2 hkn
      generalize x.asn.getD k 0 = p at *
      repeat' (first|apply GO_seq|apply GO_skip|apply GO_inBlock|apply GO_block|apply GO_region|apply GOl_nil|(apply GOl_add;(iterate 3 exact rfl);omega;exact rfl;exact rfl)|(apply GOl_pv;(iterate 3 exact rfl))|(apply GOl_load;exact rfl;exact Ld_blk rfl QM rfl;exact rfl;exact rfl)|(apply GOl_ov;exact rfl;exact rfl;(first|(apply OV_idxS (j:=k);(iterate 5 exact rfl);exact a1;(with_reducible exact rfl);omega)|(apply OV_load;exact rfl;exact Lv_ro rfl c1 rfl));exact QA)|(apply GOl_to;(iterate 3 exact rfl);(first|(apply OpTo_buildSliceS (enc:=encM2) (n:=1) [(p,x.g.a)];(iterate 3 exact rfl);exact List.cons_ne_nil _ _;(iterate 4 exact rfl);exact fun _ => rfl;exact rfl;exact rfl;intro b5 h5 hle5 hs5;skip)|(apply OpTo_appendS (enc:=encM2) (xs:=x.hs.map (fun p => (p,x.g.h)) ++ (x.asn.take k).map (fun p => (p,x.g.a)));(iterate 7 exact rfl);exact hs5;exact fun _ => rfl;exact fun x => allOne_ok rfl;intro v1;exact QR;omega;exact rfl;intro A5 c5;skip)))|(apply GO_cond;exact rfl;all_goals (intro hc;try simp only [hcS,reduceCtorEq] at hc;try (exfalso;omega))))
      all_goals first
        | (exfalso;omega)
        | (have h3:=ih (k + 1,A5,c5,h5) ⟨by dsimp only;omega,hle2.trans hle5⟩ (by dsimp only;omega)
           dsimp only at h3
           rw [et,List.map_append,← List.append_assoc] at h3
           refine GO_fit QS QT (h3))
    · rw [List.take_of_length_le (by omega)]
      have ek : k = s.asn.n:=by omega
      subst ek
      clear ih
      have hml : (memU x).length = s.hs.n + s.asn.n:=by unfold memU;rw [List.length_append,List.length_map,List.length_map,hn1,hn2]
      rw [show x.hs.map (fun p => (p,x.g.h)) ++ x.asn.map (fun p => (p,x.g.a)) = memU x from rfl]
      repeat' (first|apply GO_seq|apply GO_region|apply GOl_nil|(apply GO_exit;exact rfl)|(apply GOl_pv;(iterate 3 exact rfl))|(apply GOl_to;(iterate 3 exact rfl);(first|(apply OpTo_callP;exact rfl;exact has42;exact sortM_c _ _ (memU x) (s.hs.n + s.asn.n) (by omega) hml;exact QT;rintro vs Es9 h9 hle9 ⟨rfl,ys,hpm,hso,rfl⟩;skip)))|(apply GO_cond;exact rfl;all_goals (intro hc;try simp only [hcS,reduceCtorEq] at hc;try (exfalso;omega))))
      all_goals (try (exfalso;omega))
      have hyl : ys.length = s.hs.n + s.asn.n:=by rw [hpm.length_eq,hml]
      refine GO_relC (enc:=encM2) (e:=76) (sz:=2) (n:=s.hs.n + s.asn.n) (xs:=ys) (fun _ => rfl) hyl QK ?_
      intro A7 c7 h7 hle7 e7 hnc7 hs7
      cases e7
      have him:=sorted_mem hok hpm hso
      have hye:=memS_of him
      rw [← hye]
      rw [← hyl] at hs7
      skip
      all_goals first
        | (exact GO_retR1 rfl rfl rfl ⟨A6,c6,by rw [hyl],hs7,him⟩)
end Go.Hw

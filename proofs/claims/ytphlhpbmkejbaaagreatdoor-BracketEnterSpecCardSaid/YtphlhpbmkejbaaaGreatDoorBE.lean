import Derived.Test.YtphlhpbmkejbaaaGreatDoorRA
import Derived.Test.YtphlhpbmkejbaaaGreatDoorBA
import Derived.Test.YtphlhpbmkejbaaaGreatDoorHF
set_option linter.unusedVariables false
set_option linter.unusedSimpArgs false
set_option maxRecDepth 100000
set_option maxHeartbeats 8000000
namespace Go.Hw
open Go
attribute [local irreducible] GO GOl GDp Val Fn Res CellsAt ValE Blk OwnS MapA OwnPf Has Yl
open Go.Proofs (Tryz.prog)
theorem gameR7_c (h : Ro) (g : FGame) : Val Tryz.prog 62 #[gameV g] h (.int .i64 (if GameOk g then 0 else 70)):=by
  refine Val_intro (args:=[_]) ts_ok Go.Proofs.Tryz.func62 rfl rfl fun w0 X0 => ?_
  have hv:=validR7_c h g
  by_cases hg : GameOk g
  · rw [decide_eq_true hg] at hv
    rw [if_pos hg]
    repeat' (first|apply GO_seq|apply GO_skip|apply GO_region|apply GOl_nil|(apply GOl_pv;(iterate 3 exact rfl))|(apply GOl_load;exact rfl;exact Ld_blk rfl QM rfl;exact rfl;exact rfl)|(apply GOl_to;(iterate 3 exact rfl);(first|(apply OpTo_box;exact rfl;intro b;skip)|(apply OpTo_val;exact rfl;exact has88;exact hv;skip)))|(apply GO_cond;exact rfl;all_goals (intro hc;try simp only [hcS,reduceCtorEq] at hc;try (exfalso;omega))))
    all_goals first
      | (exfalso;simp at hc;done)
      | (exact GO_retV1 rfl rfl rfl rfl)
  · rw [decide_eq_false hg] at hv
    rw [if_neg hg]
    repeat' (first|apply GO_seq|apply GO_region|apply GOl_nil|(apply GOl_pv;(iterate 3 exact rfl))|(apply GOl_load;exact rfl;exact Ld_blk rfl QM rfl;exact rfl;exact rfl)|(apply GOl_to;(iterate 3 exact rfl);(first|(apply OpTo_box;exact rfl;intro b;skip)|(apply OpTo_val;exact rfl;exact has88;exact hv;skip)))|(apply GO_cond;exact rfl;all_goals (intro hc;try simp only [hcS,reduceCtorEq] at hc;try (exfalso;omega))))
    all_goals first
      | (exfalso;simp at hc;done)
      | (exact GO_retV1 rfl rfl rfl rfl)
theorem withinR12_c (h : Ro) (n m : Int) : Val Tryz.prog 63 #[.int .i64 n,.int .i64 m] h (.bool (decide (0 ≤ n ∧ n ≤ m))):=by
  refine Val_intro (args:=[_,_]) ts_ok Go.Proofs.Tryz.func63 rfl rfl fun w0 X0 => ?_
  repeat' (first|apply GO_seq|apply GO_region|apply GOl_nil|(apply GOl_unwanted;exact rfl;exact rfl)|(apply GOl_pv;(iterate 3 exact rfl))|(apply GOl_split;exact rfl;exact rfl;all_goals (intro hc;try simp only [hcS,reduceCtorEq] at hc;try (exfalso;omega)))|(apply GO_retV1;(iterate 3 exact rfl)))
  all_goals (refine dec_ofV ?_;(try rw [leI_t]);grind)
theorem checkR12_c (h : Ro) (r : FRes) : Val Tryz.prog 35 #[resV r] h (.int .i64 (if ResOk r then 0 else 1)):=by
  refine Val_intro (args:=[_]) ts_ok Go.Proofs.Tryz.func35 rfl rfl fun w0 X0 => ?_
  have hgm:=fun h' => gameR7_c h' r.g
  have hR:=fun (_ : Unit) => resOk_ref r
  unfold ResBd ResBad1 ResBad2 ResThree Bel at hR
  by_cases hgo : GameOk r.g
  · simp only [if_pos hgo] at hgm
    all_goals
      repeat' (first|apply GO_seq|apply GO_skip|apply GO_region|apply GOl_nil|(apply GOl_unwanted;exact rfl;exact rfl)|(apply GOl_add;(iterate 3 exact rfl);omega;exact rfl;exact rfl)|(apply GOl_pv;(iterate 3 exact rfl))|(apply GOl_load;exact rfl;exact Ld_blk rfl QM rfl;exact rfl;exact rfl)|(apply GOl_to;(iterate 3 exact rfl);(first|(apply OpTo_box;exact rfl;intro b;skip)|(apply OpTo_val;exact rfl;exact has62;exact hgm _;skip)|(apply OpTo_val;exact rfl;exact has63;exact withinR12_c _ _ _;skip)))|(apply GO_cond;exact rfl;all_goals (intro hc;try simp only [hcS,reduceCtorEq] at hc;try (exfalso;omega)))|(apply GOl_split;exact rfl;exact rfl;all_goals (intro hc;try simp only [hcS,reduceCtorEq] at hc;try (exfalso;omega))))
    all_goals first
      | (exfalso;simp at hc;done)
      | (refine GO_retV1 rfl rfl rfl ?_;first|(rw [if_pos ((hR ()).2 (by grind))];done)|(rw [if_neg (fun k => by have k2:=(hR ()).1 k;grind)];done))
  · simp only [if_neg hgo] at hgm
    rw [if_neg (fun k => hgo ((hR ()).1 k).1.1)]
    repeat' (first|apply GO_seq|apply GO_region|apply GOl_nil|(apply GOl_unwanted;exact rfl;exact rfl)|(apply GOl_pv;(iterate 3 exact rfl))|(apply GOl_load;exact rfl;exact Ld_blk rfl QM rfl;exact rfl;exact rfl)|(apply GOl_to;(iterate 3 exact rfl);(first|(apply OpTo_box;exact rfl;intro b;skip)|(apply OpTo_val;exact rfl;exact has62;exact hgm _;skip)))|(apply GO_cond;exact rfl;all_goals (intro hc;try simp only [hcS,reduceCtorEq] at hc;try (exfalso;omega)))|(apply GOl_split;exact rfl;exact rfl;all_goals (intro hc;try simp only [hcS,reduceCtorEq] at hc;try (exfalso;omega))))
    all_goals first
      | (exfalso;omega)
      | (exact GO_retV1 rfl rfl rfl rfl)
end Go.Hw
set_option linter.unusedVariables false
set_option linter.unusedSimpArgs false
set_option maxRecDepth 100000
set_option maxHeartbeats 8000000
namespace Go.Hw
open Go
attribute [local irreducible] GO GOl GDp Val Fn Res CellsAt ValE Blk OwnS MapA OwnPf Has Yl
open Go.Proofs (Tryz.prog)
theorem rules21_c (h : Ro) (t : FTie) : Val Tryz.prog 33 #[tieV t] h (.bool (decide (IsTie t))):=by
  refine Val_intro (args:=[_]) ts_ok Go.Proofs.Tryz.func33 rfl rfl fun w0 X0 => ?_
  repeat' (first|apply GO_seq|apply GO_region|apply GOl_nil|(apply GOl_unwanted;exact rfl;exact rfl)|(apply GOl_pv;(iterate 3 exact rfl))|(apply GOl_load;exact rfl;exact Ld_blk rfl QM rfl;exact rfl;exact rfl)|(apply GOl_to;(iterate 3 exact rfl);(first|(apply OpTo_box;exact rfl;intro b;skip)))|(apply GOl_split;exact rfl;exact rfl;all_goals (intro hc;try simp only [hcS,reduceCtorEq] at hc;try (exfalso;omega)))|(apply GO_retV1;(iterate 3 exact rfl)))
  all_goals (refine dec_ofV ?_;(try rw [eqI_t]);unfold IsTie;grind)
theorem club21_c (h : Ro) (n : Int) : Val Tryz.prog 34 #[.int .i64 n] h (.bool (decide (Bel n 192))):=by
  refine Val_intro (args:=[_]) ts_ok Go.Proofs.Tryz.func34 rfl rfl fun w0 X0 => ?_
  repeat' (first|apply GO_seq|apply GO_region|apply GOl_nil|(apply GOl_unwanted;exact rfl;exact rfl)|(apply GOl_pv;(iterate 3 exact rfl))|(apply GOl_split;exact rfl;exact rfl;all_goals (intro hc;try simp only [hcS,reduceCtorEq] at hc;try (exfalso;omega)))|(apply GO_retV1;(iterate 3 exact rfl)))
  all_goals (refine dec_ofV ?_;(try rw [ltI_t]);unfold Bel;grind)
theorem leg21_c (h : Ro) (s : Sli) (d : FDuel) (k : Nat) : Val Tryz.prog 36 #[duelV s d,.int .i64 (k : Int)] h (.tuple #[.int .i64 (legA d k),.int .i64 (legB d k)]):=by
  refine Val_intro (args:=[_,_]) ts_ok Go.Proofs.Tryz.func36 rfl rfl fun w0 X0 => ?_
  unfold legA legB
  by_cases hk : k = 0
  · rw [if_pos hk,if_pos hk]
    repeat' (first|apply GO_seq|apply GO_region|apply GOl_nil|(apply GOl_pv;(iterate 3 exact rfl))|(apply GOl_to;(iterate 3 exact rfl);(first|(apply OpTo_box;exact rfl;intro b;skip)))|(apply GO_drawp (n:=2) [0,1,4,2,3,5] [(0,0),(1,0),(2,0),(3,0),(4,0),(5,0)];kernel_rfl)|(apply GP_pv;exact rfl;kernel_rfl;(iterate 3 exact rfl))|(apply GP_loadB;exact rfl;kernel_rfl;(iterate 3 exact rfl);exact QM;exact rfl;exact rfl)|(apply GP_done;kernel_rfl;exact rfl)|(apply GO_cond;exact rfl;all_goals (intro hc;try simp only [hcS,reduceCtorEq] at hc;try (exfalso;omega)))|(apply GO_retV2;(iterate 4 exact rfl)))
    all_goals first|rfl|(exfalso;omega)
  · rw [if_neg hk,if_neg hk]
    repeat' (first|apply GO_seq|apply GO_skip|apply GO_region|apply GOl_nil|(apply GOl_pv;(iterate 3 exact rfl))|(apply GOl_to;(iterate 3 exact rfl);(first|(apply OpTo_box;exact rfl;intro b;skip)))|(apply GO_drawp (n:=3) [0,1,4,2,3,5] [(0,0),(1,0),(2,0),(3,0),(4,0),(5,0)];kernel_rfl)|(apply GP_pv;exact rfl;kernel_rfl;(iterate 3 exact rfl))|(apply GP_loadB;exact rfl;kernel_rfl;(iterate 3 exact rfl);exact QM;exact rfl;exact rfl)|(apply GP_done;kernel_rfl;exact rfl)|(apply GO_cond;exact rfl;all_goals (intro hc;try simp only [hcS,reduceCtorEq] at hc;try (exfalso;omega)))|(apply GO_retV2;(iterate 4 exact rfl)))
    all_goals first|rfl|(exfalso;omega)
def SidesB (z : FSides) (k : Nat) : Prop:=(0 ≤ z.f ∧ z.f ≤ 99 * (k : Int)) ∧ (0 ≤ z.s ∧ z.s ≤ 99 * (k : Int)) ∧ (0 ≤ z.af ∧ z.af ≤ 99 * (k : Int)) ∧ 0 ≤ z.as' ∧ z.as' ≤ 99 * (k : Int)
theorem sidesB_all {ls : List FRes} (h : ∀ x ∈ ls,ResOk x) : SidesB (sideL 0 sides0 ls) ls.length:=by
  refine snocI (P:=fun ls => (∀ x ∈ ls,ResOk x) → SidesB (sideL 0 sides0 ls) ls.length) (fun _ => by unfold SidesB sideL sides0;simp) (fun l x ih h => ?_) ls h
  have h1:=ih fun y hy => h y (by simp [hy])
  obtain ⟨_,⟨u1,u2⟩,⟨u3,u4⟩,_⟩:=h x (by simp)
  rw [sideL_snoc,List.length_append,List.length_singleton]
  generalize sideL 0 sides0 l = z at *
  unfold SidesB at h1 ⊢
  unfold sideS
  split <;> (dsimp only;omega)
theorem wrap_sum {a b : Int} (h : -9223372036854775808 ≤ a + b ∧ a + b ≤ 9223372036854775807) : IntKind.i64.wrap (a + b) = a + b:=i64_in _ h
def sideW (l : FSides) (i : Nat) (x : FRes) : FSides :=
  if i = 0 then ⟨IntKind.i64.wrap (l.f + x.hg),IntKind.i64.wrap (l.s + x.ag),l.af,IntKind.i64.wrap (l.as' + x.ag),x.hp,x.ap⟩
  else ⟨IntKind.i64.wrap (l.f + x.ag),IntKind.i64.wrap (l.s + x.hg),IntKind.i64.wrap (l.af + x.ag),l.as',x.ap,x.hp⟩
theorem sideW_eq {l : FSides} {i k : Nat} {x : FRes} (hb : SidesB l k) (hk : k ≤ 2) (hx : ResOk x) : sideW l i x = sideS l i x:=by
  obtain ⟨_,⟨u1,u2⟩,⟨u3,u4⟩,_⟩:=hx
  unfold SidesB at hb
  unfold sideW sideS
  split
  · rw [wrap_sum (by omega),wrap_sum (by omega),wrap_sum (by omega)]
  · rw [wrap_sum (by omega),wrap_sum (by omega),wrap_sum (by omega)]
def SidesI (g : Prop) (ls : List FRes) (k : Nat) (z : FSides) : Prop:=g → z = sideL 0 sides0 (ls.take k)
theorem sidesI_step {g : Prop} {ls : List FRes} {k : Nat} {z : FSides} (hz : SidesI g ls k z) (hg : g → ls.length ≤ 2 ∧ ∀ x ∈ ls,ResOk x) (hk : k < ls.length) : SidesI g ls (k + 1) (sideW z k (ls.getD k res0)):=by
  intro q
  obtain ⟨h1,h2⟩:=hg q
  have hb:=sidesB_all (ls:=ls.take k) (fun x hx => h2 x (List.mem_of_mem_take hx))
  rw [← hz q,List.length_take,Nat.min_eq_left (by omega)] at hb
  have hm : ls.getD k res0 ∈ ls:=by
    rw [List.getD_eq_getElem?_getD,List.getElem?_eq_getElem hk];exact List.getElem_mem hk
  have et : ls.take (k + 1) = ls.take k ++ [ls.getD k res0]:=by
    rw [List.take_add_one,List.getElem?_eq_getElem hk,List.getD_eq_getElem?_getD,List.getElem?_eq_getElem hk];rfl
  rw [sideW_eq hb (by omega) (h2 _ hm),et,sideL_snoc,← hz q,Nat.zero_add,List.length_take,Nat.min_eq_left (by omega)]
def sideA' (z : FSides) (t : FTie) : Int × Int:=if z.f = z.s ∧ t.legs = 2 ∧ t.away = true then (z.af,z.as') else (z.f,z.s)
def sideP' (z : FSides) (t : FTie) : Int × Int:=if (sideA' z t).1 = (sideA' z t).2 then (z.pf,z.ps) else sideA' z t
theorem sideP_eq (d : FDuel) (t : FTie) : sideP d t = sideP' (sideD d) t:=rfl
def decV (d : FDuel) (p : Int × Int) : Value:=.tuple #[.int .i64 (if p.2 < p.1 then d.a else d.b),.bool (decide (p.2 < p.1 ∨ p.1 < p.2))]
theorem decV_win {d : FDuel} {t : FTie} (h : FullD d t) : decV d (sideP d t) = winV d t:=by
  have:=sideP_lead d t
  unfold decV winV
  rw [if_pos h,decided_win h,this]
  by_cases k1 : (sideP d t).2 < (sideP d t).1
  · rw [if_pos k1,if_pos (show 0 < (sideP d t).1 - (sideP d t).2 by omega),if_pos k1,decide_eq_true (Or.inl k1)];rfl
  · rw [if_neg k1,if_neg (show ¬ 0 < (sideP d t).1 - (sideP d t).2 by omega),if_neg k1]
    by_cases k2 : (sideP d t).1 < (sideP d t).2
    · rw [if_pos k2,decide_eq_true (Or.inr k2)];rfl
    · rw [if_neg k2,decide_eq_false (by omega)];rfl
theorem decided_c (h : Ro) (s : Sli) (d : FDuel) (t : FTie) (ha : DuAt h (s,d)) (hn : s.n ≤ 4611686018427387904) : Res Tryz.prog 27 #[duelV s d,tieV t] h (fun u _ => ∃ c b,u = .tuple #[.int .i64 c,.bool b] ∧ (DuG h s d → u = winV d t)):=by
  refine Res_intro (args:=[_,_]) ts_ok Go.Proofs.Tryz.func27 rfl rfl fun w0 X0 => ?_
  have hx:=ha.1
  dsimp only at hx
  have hlen:=hx.len
  by_cases hF : FullD d t
  · have hF':=hF
    unfold FullD at hF'
    have hwin : ∀ z,SidesI (DuG h s d) d.ls s.n z → ∀ u,u = decV d (sideP' z t) → ∃ c b,u = .tuple #[.int .i64 c,.bool b] ∧ (DuG h s d → u = winV d t):=fun z hz u e => ⟨_,_,e,fun g => by
      rw [e,hz g,List.take_of_length_le (by omega),← decV_win hF,sideP_eq];rfl⟩
    have hgg : DuG h s d → d.ls.length ≤ 2 ∧ ∀ x ∈ d.ls,ResOk x:=fun g => ⟨by have:=g.few;omega,g.ok⟩
    generalize DuG h s d = G at *
    generalize winV d t = V at *
    clear ha hF
    repeat' (first|apply GO_seq|apply GO_skip|apply GO_block|apply GO_region|apply GOl_nil|(apply GOl_to;(iterate 3 exact rfl);apply OpTo_box (e:=24);exact rfl;intro b2)|(apply GOl_to;(iterate 3 exact rfl);apply OpTo_box (e:=26);exact rfl;intro b3)|(apply GOl_pv;(iterate 3 exact rfl))|(apply GOl_load;exact rfl;exact Ld_blk rfl QM rfl;exact rfl;exact rfl)|(apply GO_cond;exact rfl;all_goals (intro hc;try simp only [hcS,reduceCtorEq] at hc;try (exfalso;omega))))
    all_goals (try (exfalso;omega))
    refine GO_loopT (X:=Nat × FSides) (fun x => x.1 ≤ s.n ∧ SidesI G d.ls x.1 x.2) (fun x => s.n - x.1)
      (fun x => [(12,.int .i64 x.1),(6,.int .i64 x.2.f),(7,.int .i64 x.2.s),(8,.int .i64 x.2.af),(9,.int .i64 x.2.as'),(10,.int .i64 x.2.pf),(11,.int .i64 x.2.ps),(2,ptrB b2),(3,ptrB b3)])
      (fun _ => [Blk b2 24 (duelC s d),Blk b3 26 (tieC t)]) (fun _ => h) (0,sides0) ⟨by dsimp only;omega,fun _ => rfl⟩ QS QT rfl ?_
    rintro ⟨k,z⟩ ⟨hk,hI⟩ ih
    dsimp only at hk hI ih ⊢
    by_cases hkn : k < s.n
    · have a1:=hx.addrD hkn
      have c1 : CellsAt h ((addrD s.A).add (k * ty40.size)) (resC (d.ls.getD k res0)):=hx.cellsD res0 hkn
      have hst:=sidesI_step hI hgg (show k < d.ls.length by omega)
      have h3:=ih (k + 1,sideW z k (d.ls.getD k res0)) ⟨by dsimp only;omega,hst⟩ (by dsimp only;omega)
      dsimp only at h3
      generalize d.ls.getD k res0 = x at *
      clear ih hst hI hwin hgg
      obtain ⟨zf,zs,zaf,zas,zpf,zps⟩:=z
      unfold sideW at h3
      dsimp only at h3 ⊢
      by_cases k0 : k = 0
      · simp only [if_pos k0] at h3
        repeat' (first|apply GO_seq|apply GO_skip|apply GO_inBlock|apply GO_block|apply GO_region|apply GOl_nil|(apply GOl_to;(iterate 3 exact rfl);apply OpTo_alloc (e:=40);exact rfl;intro bX)|(apply GOl_ov;exact rfl;exact rfl;(first|(apply OV_add (q:=1);(iterate 3 exact rfl);omega)|(apply OV_addX;(iterate 3 exact rfl)));exact QA)|(apply GOl_pv;(iterate 3 exact rfl))|(apply GOl_load;exact rfl;exact Ld_blk rfl QM rfl;exact rfl;exact rfl)|(apply GOl_ov;exact rfl;exact rfl;(first|(apply OV_idxS (j:=k);(iterate 5 exact rfl);exact a1;(with_reducible exact rfl);omega)|(apply OV_load;exact rfl;exact Lv_ro rfl c1 rfl));exact QA)|(apply GOl_to;(iterate 3 exact rfl);(first|(apply OpTo_store;(iterate 3 exact rfl);exact QR;(iterate 3 exact rfl);skip)))|(apply GO_cond;exact rfl;all_goals (intro hc;try simp only [hcS,reduceCtorEq] at hc;try (exfalso;omega))))
        all_goals first
          | (exfalso;omega)
          | (refine GO_fit QS QT (h3))
      · simp only [if_neg k0] at h3
        repeat' (first|apply GO_seq|apply GO_skip|apply GO_inBlock|apply GO_block|apply GO_region|apply GOl_nil|(apply GOl_to;(iterate 3 exact rfl);apply OpTo_alloc (e:=40);exact rfl;intro bX)|(apply GOl_ov;exact rfl;exact rfl;(first|(apply OV_add (q:=1);(iterate 3 exact rfl);omega)|(apply OV_addX;(iterate 3 exact rfl)));exact QA)|(apply GOl_pv;(iterate 3 exact rfl))|(apply GOl_load;exact rfl;exact Ld_blk rfl QM rfl;exact rfl;exact rfl)|(apply GOl_ov;exact rfl;exact rfl;(first|(apply OV_idxS (j:=k);(iterate 5 exact rfl);exact a1;(with_reducible exact rfl);omega)|(apply OV_load;exact rfl;exact Lv_ro rfl c1 rfl));exact QA)|(apply GOl_to;(iterate 3 exact rfl);(first|(apply OpTo_store;(iterate 3 exact rfl);exact QR;(iterate 3 exact rfl);skip)))|(apply GO_cond;exact rfl;all_goals (intro hc;try simp only [hcS,reduceCtorEq] at hc;try (exfalso;omega))))
        all_goals first
          | (exfalso;omega)
          | (refine GO_fit QS QT (h3))
    · have ek : k = s.n:=by omega
      rw [ek] at hI
      have hw:=hwin z hI
      clear ih hwin hgg hI
      obtain ⟨zf,zs,zaf,zas,zpf,zps⟩:=z
      obtain ⟨tl,ta⟩:=t
      have hA : ∀ p : Int × Int,sideP' ⟨zf,zs,zaf,zas,zpf,zps⟩ ⟨tl,ta⟩ = p → ∃ c b,decV d p = .tuple #[.int .i64 c,.bool b] ∧ (G → decV d p = V):=fun p e => by
        subst e;exact hw _ rfl
      unfold sideP' sideA' at hA
      dsimp only at hA ⊢
      have hD1 : ∀ a b : Int,b < a → decV d (a,b) = .tuple #[.int .i64 d.a,.bool true]:=fun a b q => by unfold decV;dsimp only;rw [if_pos q,decide_eq_true (Or.inl q)]
      have hD2 : ∀ a b : Int,¬ b < a → decV d (a,b) = .tuple #[.int .i64 d.b,.bool (ltI a b)]:=fun a b q => by
        unfold decV;dsimp only;rw [if_neg q,ltI_eq]
        by_cases w : a < b
        · rw [decide_eq_true (Or.inr w),decide_eq_true w]
        · rw [decide_eq_false (by omega),decide_eq_false w]
      cases ta
      all_goals
        repeat' (first|apply GO_seq|apply GO_skip|apply GO_region|apply GOl_nil|(apply GO_exit;exact rfl)|(apply GOl_unwanted;exact rfl;exact rfl)|(apply GOl_pv;(iterate 3 exact rfl))|(apply GOl_load;exact rfl;exact Ld_blk rfl QM rfl;exact rfl;exact rfl)|(apply GO_cond;exact rfl;all_goals (intro hc;try simp only [hcS,reduceCtorEq] at hc;try (exfalso;omega)))|(apply GOl_split;exact rfl;exact rfl;all_goals (intro hc;try simp only [hcS,reduceCtorEq] at hc;try (exfalso;omega))))
      all_goals (try (exfalso;omega))
      all_goals (try (exfalso;simp at hc;done))
      all_goals first
        | (refine GO_retR2 rfl rfl rfl rfl ?_
           first
             | (have:=hA (zf,zs) (by grind);first|(rw [hD1 zf zs (by omega)] at this;exact this)|(rw [hD2 zf zs (by omega)] at this;exact this))
             | (have:=hA (zaf,zas) (by grind);first|(rw [hD1 zaf zas (by omega)] at this;exact this)|(rw [hD2 zaf zas (by omega)] at this;exact this))
             | (have:=hA (zpf,zps) (by grind);first|(rw [hD1 zpf zps (by omega)] at this;exact this)|(rw [hD2 zpf zps (by omega)] at this;exact this)))
  · have hV:=winV_open hF
    unfold FullD at hF
    rw [hlen] at hF
    repeat' (first|apply GO_seq|apply GO_region|apply GOl_nil|(apply GOl_pv;(iterate 3 exact rfl))|(apply GOl_load;exact rfl;exact Ld_blk rfl QM rfl;exact rfl;exact rfl)|(apply GOl_to;(iterate 3 exact rfl);(first|(apply OpTo_box;exact rfl;intro b;skip)))|(apply GO_cond;exact rfl;all_goals (intro hc;try simp only [hcS,reduceCtorEq] at hc;try (exfalso;omega))))
    all_goals first
      | (exfalso;omega)
      | (exact GO_retR2 rfl rfl rfl rfl ⟨_,_,rfl,fun _ => hV.symm⟩)
theorem check21_c (h : Ro) (s : Sli) (d : FDuel) (t : FTie) (ha : DuAt h (s,d)) : Val Tryz.prog 12 #[duelV s d,tieV t] h (.int .i64 (checkD d t)):=by
  refine Val_intro (args:=[_,_]) ts_ok Go.Proofs.Tryz.func12 rfl rfl fun w0 X0 => ?_
  have hx:=ha.1
  dsimp only at hx
  have hlen:=hx.len
  have hno:=checkD_210 (d:=d) (t:=t)
  have h1x:=fun k x hx hr => checkD_1 (d:=d) (t:=t) k (x:=x) hx hr
  have hlg:=fun k hr i hi hl => checkD_leg (d:=d) (t:=t) k hr (i:=i) hi hl
  have hz:=checkD_zero (d:=d) (t:=t)
  generalize checkD d t = E at *
  have hr:=rules21_c h t
  have hca:=club21_c h d.a
  have hcb:=club21_c h d.b
  by_cases h0 : DuelOk0 d t
  · have h0':=h0
    obtain ⟨o1,o2,o3,o4,o5⟩:=h0'
    rw [decide_eq_true o1] at hr
    rw [decide_eq_true o2] at hca
    rw [decide_eq_true o3] at hcb
    have o5' : (s.n : Int) ≤ t.legs:=by omega
    have hn2 : s.n ≤ 2:=by unfold IsTie at o1;omega
    repeat' (first|apply GO_seq|apply GO_skip|apply GO_block|apply GO_region|apply GOl_nil|(apply GOl_to;(iterate 3 exact rfl);apply OpTo_box (e:=24);exact rfl;intro b2)|(apply GOl_to;(iterate 3 exact rfl);apply OpTo_box (e:=26);exact rfl;intro b3)|(apply GOl_pv;(iterate 3 exact rfl))|(apply GOl_load;exact rfl;exact Ld_blk rfl QM rfl;exact rfl;exact rfl)|(apply GOl_to;(iterate 3 exact rfl);(first|(apply OpTo_val;exact rfl;exact has33;exact hr;skip)|(apply OpTo_val;exact rfl;exact has34;(first|exact hca|exact hcb);skip)))|(apply GO_cond;exact rfl;all_goals (intro hc;try simp only [hcS,reduceCtorEq] at hc;try (exfalso;omega)))|(apply GOl_split;exact rfl;exact rfl;all_goals (intro hc;try simp only [hcS,reduceCtorEq] at hc;try (exfalso;omega))))
    all_goals (try (exfalso;simp at hc;done))
    all_goals (try (exfalso;omega))
    refine GO_loopT (X:=Nat) (fun k => k ≤ s.n ∧ ∀ y ∈ d.ls.take k,ResOk y) (fun k => s.n - k) (fun k => [(5,.int .i64 k),(2,ptrB b2),(3,ptrB b3)])
      (fun _ => [Blk b2 24 (duelC s d),Blk b3 26 (tieC t)]) (fun _ => h) 0 ⟨by omega,by simp⟩ QS QT rfl ?_
    rintro k ⟨hk,hI⟩ ih
    by_cases hkn : k < s.n
    · have a1:=hx.addrD hkn
      have c1 : CellsAt h ((addrD s.A).add (k * ty40.size)) (resC (d.ls.getD k res0)):=hx.cellsD res0 hkn
      have et:=take7 res0 (xs:=d.ls) hlen hkn
      have hm:=mem7 res0 (show k < d.ls.length by omega)
      generalize d.ls.getD k res0 = x at *
      have hck:=checkR12_c h x
      by_cases hro : ResOk x
      · rw [if_pos hro] at hck
        have h3:=ih (k + 1) ⟨by omega,fun y hy => by
          rw [et,List.mem_append,List.mem_singleton] at hy
          rcases hy with hy|rfl
          · exact hI y hy
          · exact hro⟩ (by omega)
        clear ih
        repeat' (first|apply GO_seq|apply GO_skip|apply GO_inBlock|apply GO_block|apply GO_region|apply GOl_nil|(apply GOl_add;(iterate 3 exact rfl);omega;exact rfl;exact rfl)|(apply GOl_pv;(iterate 3 exact rfl))|(apply GOl_load;exact rfl;exact Ld_blk rfl QM rfl;exact rfl;exact rfl)|(apply GOl_ov;exact rfl;exact rfl;(first|(apply OV_idxS (j:=k);(iterate 5 exact rfl);exact a1;(with_reducible exact rfl);omega)|(apply OV_load;exact rfl;exact Lv_ro rfl c1 rfl));exact QA)|(apply GOl_to;(iterate 3 exact rfl);(first|(apply OpTo_val;exact rfl;exact has35;exact hck;skip)))|(apply GO_cond;exact rfl;all_goals (intro hc;try simp only [hcS,reduceCtorEq] at hc;try (exfalso;omega))))
        all_goals first
          | (exfalso;simp at hc;done)
          | (exfalso;omega)
          | (refine GO_fit QS QT (h3))
      · rw [if_neg hro] at hck
        have hE:=h1x h0 x hm hro
        clear ih hz
        repeat' (first|apply GO_seq|apply GO_skip|apply GO_block|apply GO_region|apply GOl_nil|(apply GOl_pv;(iterate 3 exact rfl))|(apply GOl_load;exact rfl;exact Ld_blk rfl QM rfl;exact rfl;exact rfl)|(apply GOl_ov;exact rfl;exact rfl;(first|(apply OV_idxS (j:=k);(iterate 5 exact rfl);exact a1;(with_reducible exact rfl);omega)|(apply OV_load;exact rfl;exact Lv_ro rfl c1 rfl));exact QA)|(apply GOl_to;(iterate 3 exact rfl);(first|(apply OpTo_val;exact rfl;exact has35;exact hck;skip)))|(apply GO_cond;exact rfl;all_goals (intro hc;try simp only [hcS,reduceCtorEq] at hc;try (exfalso;omega))))
        all_goals first
          | (exfalso;simp at hc;done)
          | (exfalso;omega)
          | (exact GO_retV1 rfl rfl rfl (by rw [hE]))
    · rw [List.take_of_length_le (by omega)] at hI
      clear ih h1x hno
      have hE210:=hlg h0 hI
      have hE0 : (∀ i,i < s.n → LegOk d i (d.ls.getD i res0)) → E = 0:=fun k => hz.2 ⟨h0,hI,fun i hi => k i (by omega)⟩
      clear hz hlg
      repeat' (first|apply GO_seq|apply GO_block|apply GO_region|apply GOl_nil|(apply GO_exit;exact rfl)|(apply GOl_pv;(iterate 3 exact rfl))|(apply GOl_load;exact rfl;exact Ld_blk rfl QM rfl;exact rfl;exact rfl)|(apply GO_cond;exact rfl;all_goals (intro hc;try simp only [hcS,reduceCtorEq] at hc;try (exfalso;omega))))
      all_goals (try (exfalso;omega))
      refine GO_loopT (X:=Nat) (fun k => k ≤ s.n ∧ ∀ i,i < k → LegOk d i (d.ls.getD i res0)) (fun k => s.n - k) (fun k => [(7,.int .i64 k),(2,ptrB b2),(3,ptrB b3)])
        (fun _ => [Blk b2 24 (duelC s d),Blk b3 26 (tieC t)]) (fun _ => h) 0 ⟨by omega,fun i hi => absurd hi (by omega)⟩ QS QT rfl ?_
      rintro k ⟨hk,hL⟩ ih
      by_cases hkn : k < s.n
      · have a1:=hx.addrD hkn
        have c1 : CellsAt h ((addrD s.A).add (k * ty40.size)) (resC (d.ls.getD k res0)):=hx.cellsD res0 hkn
        have c0 : CellsAt h ((addrD s.A).add (0 * ty40.size)) (resC (d.ls.getD 0 res0)):=hx.cellsD res0 (show 0 < s.n by omega)
        have e0 : d.ls.getD 0 res0 = d.ls.headD res0:=by cases d.ls <;> rfl
        have hle1:=leg21_c h s d k
        have h21:=hE210 k (by omega)
        have h3:=fun (hl : LegOk d k (d.ls.getD k res0)) => ih (k + 1) ⟨by omega,fun i hi => by
          by_cases e : i = k
          · rw [e];exact hl
          · exact hL i (by omega)⟩ (by omega)
        rw [e0] at c0
        unfold LegOk SameCup at h3 h21
        generalize d.ls.headD res0 = y0 at *
        generalize d.ls.getD k res0 = x at *
        generalize legA d k = la at *
        generalize legB d k = lb at *
        clear ih hL hE210
        by_cases hlo : x.g.h = la ∧ x.g.a = lb ∧ 8 ≤ x.g.c ∧ x.g.s = y0.g.s ∧ x.g.c = y0.g.c
        · have h4:=h3 hlo
          obtain ⟨l1,l2,l3,l4,l5⟩:=hlo
          clear h3 h21
          repeat' (first|apply GO_seq|apply GO_skip|apply GO_inBlock|apply GO_block|apply GO_region|apply GOl_nil|(apply GOl_to;(iterate 3 exact rfl);apply OpTo_alloc (e:=38);exact rfl;intro bG)|(apply GOl_add;(iterate 3 exact rfl);omega;exact rfl;exact rfl)|(apply GOl_pv;(iterate 3 exact rfl))|(apply GOl_load;exact rfl;exact Ld_blk rfl QM rfl;exact rfl;exact rfl)|(apply GOl_ov;exact rfl;exact rfl;(first|(apply OV_idxS (j:=k);(iterate 5 exact rfl);exact a1;(with_reducible exact rfl);omega)|(apply OV_load;exact rfl;first|exact Lv_ro rfl c1 rfl|exact Lv_roF rfl c1 rfl));exact QA)|(apply GOl_to;(iterate 3 exact rfl);(first|(apply OpTo_store;(iterate 3 exact rfl);exact QR;(iterate 3 exact rfl);skip)|(apply OpTo_val;exact rfl;exact has36;exact hle1;skip)))|(apply GO_drawp (n:=14) [0,1,2,3,4,5,6,7,8,9,10,11,12,13,14,15,16,17,18,19,20,21,22,23,24,25,26,27,28,29,30,31,32,33,34,35,36] [(0,0),(1,0),(2,0),(3,0),(4,0),(5,0),(6,0),(7,0),(8,0),(9,0),(10,0),(11,0),(12,0),(13,0),(14,0),(15,0),(16,0),(17,0),(18,0),(19,0),(20,0),(21,0),(22,0),(23,0),(24,0),(25,0),(26,0),(27,0),(28,0),(29,0),(30,0),(31,0),(32,0),(33,0),(34,0),(35,0),(36,0)];kernel_rfl)|(apply GP_pv;exact rfl;kernel_rfl;(iterate 3 exact rfl))|(apply GP_loadB;exact rfl;kernel_rfl;(iterate 3 exact rfl);exact QM;exact rfl;exact rfl)|(apply GP_ov;exact rfl;kernel_rfl;exact rfl;exact rfl;(first|(apply OV_idxS (j:=0);(iterate 5 exact rfl);exact a1;omega;omega)|(apply OV_load;exact rfl;first|exact Lv_roF rfl c0 rfl|exact Lv_roF2 rfl c0 rfl));exact QA)|(apply GP_done;kernel_rfl;exact rfl)|(apply GP_split;(iterate 5 exact rfl);all_goals (intro hc;try simp only [hcS,reduceCtorEq] at hc;try (exfalso;omega)))|(apply GO_cond;exact rfl;all_goals (intro hc;try simp only [hcS,reduceCtorEq] at hc;try (exfalso;omega))))
          all_goals first
            | (exfalso;omega)
            | (refine GO_fit QS QT (h4))
        · have hE:=h21 hlo
          clear h3 h21
          repeat' (first|apply GO_seq|apply GO_skip|apply GO_block|apply GO_region|apply GOl_nil|(apply GOl_to;(iterate 3 exact rfl);apply OpTo_alloc (e:=38);exact rfl;intro bG)|(apply GOl_pv;(iterate 3 exact rfl))|(apply GOl_load;exact rfl;exact Ld_blk rfl QM rfl;exact rfl;exact rfl)|(apply GOl_ov;exact rfl;exact rfl;(first|(apply OV_idxS (j:=k);(iterate 5 exact rfl);exact a1;(with_reducible exact rfl);omega)|(apply OV_load;exact rfl;first|exact Lv_ro rfl c1 rfl|exact Lv_roF rfl c1 rfl));exact QA)|(apply GOl_to;(iterate 3 exact rfl);(first|(apply OpTo_store;(iterate 3 exact rfl);exact QR;(iterate 3 exact rfl);skip)|(apply OpTo_val;exact rfl;exact has36;exact hle1;skip)))|(apply GO_drawp (n:=14) [0,1,2,3,4,5,6,7,8,9,10,11,12,13,14,15,16,17,18,19,20,21,22,23,24,25,26,27,28,29,30,31,32,33,34,35,36] [(0,0),(1,0),(2,0),(3,0),(4,0),(5,0),(6,0),(7,0),(8,0),(9,0),(10,0),(11,0),(12,0),(13,0),(14,0),(15,0),(16,0),(17,0),(18,0),(19,0),(20,0),(21,0),(22,0),(23,0),(24,0),(25,0),(26,0),(27,0),(28,0),(29,0),(30,0),(31,0),(32,0),(33,0),(34,0),(35,0),(36,0)];kernel_rfl)|(apply GP_un;exact rfl;kernel_rfl;exact rfl;exact rfl)|(apply GP_pv;exact rfl;kernel_rfl;(iterate 3 exact rfl))|(apply GP_loadB;exact rfl;kernel_rfl;(iterate 3 exact rfl);exact QM;exact rfl;exact rfl)|(apply GP_ov;exact rfl;kernel_rfl;exact rfl;exact rfl;(first|(apply OV_idxS (j:=0);(iterate 5 exact rfl);exact a1;omega;omega)|(apply OV_load;exact rfl;first|exact Lv_roF rfl c0 rfl|exact Lv_roF2 rfl c0 rfl));exact QA)|(apply GP_done;kernel_rfl;exact rfl)|(apply GP_split;(iterate 5 exact rfl);all_goals (intro hc;try simp only [hcS,reduceCtorEq] at hc;try (exfalso;omega)))|(apply GO_cond;exact rfl;all_goals (intro hc;try simp only [hcS,reduceCtorEq] at hc;try (exfalso;omega))))
          all_goals first
            | (exact GO_retV1 rfl rfl rfl (by rw [hE]))
            | (exfalso;apply hlo;refine ⟨?_,?_,?_,?_,?_⟩ <;> first|assumption|omega)
      · have hE:=hE0 fun i hi => hL i (by omega)
        clear ih hE0 hE210
        repeat' (first|apply GO_seq|apply GO_region|apply GOl_nil|(apply GO_exit;exact rfl)|(apply GOl_pv;(iterate 3 exact rfl))|(apply GOl_load;exact rfl;exact Ld_blk rfl QM rfl;exact rfl;exact rfl)|(apply GO_cond;exact rfl;all_goals (intro hc;try simp only [hcS,reduceCtorEq] at hc;try (exfalso;omega))))
        all_goals first
          | (exfalso;omega)
          | (exact GO_retV1 rfl rfl rfl (by rw [hE]))
  · have hE:=hno h0
    clear hno h1x hlg hz
    repeat' (first|apply GO_seq|apply GO_skip|apply GO_block|apply GO_region|apply GOl_nil|(apply GOl_unwanted;exact rfl;exact rfl)|(apply GOl_pv;(iterate 3 exact rfl))|(apply GOl_load;exact rfl;exact Ld_blk rfl QM rfl;exact rfl;exact rfl)|(apply GOl_to;(iterate 3 exact rfl);(first|(apply OpTo_box;exact rfl;intro b;skip)|(apply OpTo_val;exact rfl;exact has33;exact hr;skip)|(apply OpTo_val;exact rfl;exact has34;(first|exact hca|exact hcb);skip)))|(apply GO_cond;exact rfl;all_goals (intro hc;try simp only [hcS,reduceCtorEq] at hc;try (exfalso;omega)))|(apply GOl_split;exact rfl;exact rfl;all_goals (intro hc;try simp only [hcS,reduceCtorEq] at hc;try (exfalso;omega))))
    all_goals first
      | (exact GO_retV1 rfl rfl rfl (by rw [hE]))
      | (exfalso;apply h0;refine ⟨?_,?_,?_,?_,?_⟩ <;> first|assumption|omega)
end Go.Hw

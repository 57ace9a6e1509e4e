import Derived.Test.YtphlhpbmkejbaaaGreatDoorBH
import Derived.Test.YtphlhpbmkejbaaaGreatDoorBD
import Derived.Test.YtphlhpbmkejbaaaGreatDoorF45
set_option linter.unusedVariables false
set_option linter.unusedSimpArgs false
set_option maxRecDepth 100000
set_option maxHeartbeats 8000000
namespace Go.Hw
open Go
attribute [local irreducible] GO GOl GDp Val Fn Res CellsAt ValE Blk OwnS MapA OwnPf Has Yl
open Go.Proofs (Tryz.prog)
theorem many21_c (h : Ro) (s : Sli) (l : List RdS) (t : FTie) (hb : RdsAt h s.A s.n l) (hs : BrSm s l) (hok : ∀ r ∈ rounds l,RoundOk r t) : Val Tryz.prog 22 #[brV s t] h (.int .i64 ((legsL (rounds l)).length : Int)):=by
  refine Val_intro (args:=[_]) ts_ok Go.Proofs.Tryz.func22 rfl rfl fun w0 X0 => ?_
  have hrow:=hb.row
  have hlen:=hrow.len
  have hnn:=hs.few
  repeat' (first|apply GO_seq|apply GO_block|apply GO_region|apply GOl_nil|(apply GOl_to;(iterate 3 exact rfl);apply OpTo_box (e:=36);exact rfl;intro b2)|(apply GOl_pv;(iterate 3 exact rfl)))
  refine GO_loopT (X:=Nat) (fun i => i ≤ s.n) (fun i => s.n - i)
    (fun i => [(4,.int .i64 i),(3,.int .i64 ((legsL ((rounds l).take i)).length : Int)),(1,ptrB b2)])
    (fun _ => [Blk b2 36 (brC s t)]) (fun _ => h) 0 (by omega) QS QT rfl ?_
  rintro i hi ih
  have hfew:=legs_few hs hb (i:=i) fun r hr => hok r (List.mem_of_mem_take hr)
  by_cases hin : i < s.n
  · have ra:=hrow.addrD hin
    have rc : CellsAt h ((addrD s.A).add (i * ty53.size)) (encRd (l.getD i rd0)):=hrow.cellsD rd0 hin
    have hrm:=mem7 rd0 (show i < l.length by omega)
    have hri:=hb.each _ hrm
    have hrn:=hs.each _ hrm
    have htk:=take_rounds l (i:=i) (by omega)
    have hro:=hok (duels (l.getD i rd0).2) (List.mem_map.2 ⟨_,hrm,rfl⟩)
    generalize l.getD i rd0 = R at *
    have hRl:=hri.1.row.len
    have hRrow:=hri.1.row
    have ih1:=ih (i + 1) (by omega) (by omega)
    rw [htk,legsL_snoc,List.length_append] at ih1
    generalize legsL ((rounds l).take i) = P at *
    clear ih htk
    repeat' (first|apply GO_seq|apply GO_skip|apply GO_block|apply GO_region|apply GOl_nil|(apply GOl_pv;(iterate 3 exact rfl))|(apply GOl_load;exact rfl;exact Ld_blk rfl QM rfl;exact rfl;exact rfl)|(apply GO_cond;exact rfl;all_goals (intro hc;try simp only [hcS,reduceCtorEq] at hc;try (exfalso;omega))))
    all_goals (try (exfalso;omega))
    refine GO_loopT (X:=Nat) (fun j => j ≤ R.1.n) (fun j => R.1.n - j)
      (fun j => [(5,.int .i64 j),(4,.int .i64 i),(3,.int .i64 ((P.length + (legsR (duels (R.2.take j))).length : Nat) : Int)),(1,ptrB b2)])
      (fun _ => [Blk b2 36 (brC s t)]) (fun _ => h) 0 (by omega) (by rw [show legsR (duels (R.2.take 0)) = [] from rfl,List.length_nil,Nat.add_zero];exact QS) QT rfl ?_
    rintro j hj ihj
    have hqf:=legsR_few (t:=t) (l:=duels (R.2.take j)) (fun d hd => hro d (by rw [duels_take] at hd;exact List.mem_of_mem_take hd)) (by rw [duels_len,List.length_take];omega)
    by_cases hjn : j < R.1.n
    · have a1:=hRrow.addrD hjn
      have c7 : CellsAt h ((addrD R.1.A).add (j * ty24.size)) (encDu (R.2.getD j du0)):=hRrow.cellsD du0 hjn
      have hm:=mem7 du0 (show j < R.2.length by omega)
      have hda:=hri.1.each _ hm
      have hsn:=dus_getD R.2 (j:=j) (by omega)
      have hdd:=(hro (R.2.getD j du0).2 (List.mem_map.2 ⟨_,hm,rfl⟩)).1
      generalize R.2.getD j du0 = p at *
      have hdl:=hda.len
      have hp2:=duelOk_len hdd
      have h5:=ihj (j + 1) (by omega) (by omega)
      rw [hsn,legsR_snoc,List.length_append,hdl] at h5
      generalize legsR (duels (R.2.take j)) = Q at *
      rw [show (((P.length + (Q.length + p.1.n) : Nat)) : Int) = ((P.length + Q.length : Nat) : Int) + (p.1.n : Int) by omega] at h5
      clear ihj ih1
      repeat' (first|apply GO_seq|apply GO_skip|apply GO_inBlock|apply GO_block|apply GO_region|apply GOl_nil|(apply GOl_add;(iterate 3 exact rfl);omega;exact rfl;exact rfl)|(apply GOl_pv;(iterate 3 exact rfl))|(apply GOl_load;exact rfl;exact Ld_blk rfl QM rfl;exact rfl;exact rfl)|(apply GOl_ov;exact rfl;exact rfl;(first|(apply OV_idxS (j:=i) (n:=s.n);(iterate 5 exact rfl);exact ra;(with_reducible exact rfl);omega)|(apply OV_idxS (j:=j) (n:=R.1.n);(iterate 5 exact rfl);exact a1;(with_reducible exact rfl);omega)|(apply OV_load;exact rfl;first|exact Lv_ro rfl rc rfl|exact Lv_roF rfl c7 rfl));exact QA)|(apply GO_cond;exact rfl;all_goals (intro hc;try simp only [hcS,reduceCtorEq] at hc;try (exfalso;omega))))
      all_goals first
        | (exfalso;omega)
        | (refine GO_fit QS QT (h5))
    · rw [List.take_of_length_le (by omega)]
      clear ihj
      repeat' (first|apply GO_seq|apply GO_inBlock|apply GO_region|apply GOl_nil|(apply GO_exit;exact rfl)|(apply GOl_add;(iterate 3 exact rfl);omega;exact rfl;exact rfl)|(apply GOl_pv;(iterate 3 exact rfl))|(apply GOl_load;exact rfl;exact Ld_blk rfl QM rfl;exact rfl;exact rfl)|(apply GOl_ov;exact rfl;exact rfl;(first|(apply OV_idxS (j:=i) (n:=s.n);(iterate 5 exact rfl);exact ra;(with_reducible exact rfl);omega)|(apply OV_load;exact rfl;exact Lv_ro rfl rc rfl));exact QA)|(apply GO_cond;exact rfl;all_goals (intro hc;try simp only [hcS,reduceCtorEq] at hc;try (exfalso;omega))))
      all_goals first
        | (exfalso;omega)
        | (refine GO_fit QS QT (ih1))
  · rw [List.take_of_length_le (by rw [rounds_len];omega)]
    clear ih
    repeat' (first|apply GO_seq|apply GO_region|apply GOl_nil|(apply GO_exit;exact rfl)|(apply GOl_pv;(iterate 3 exact rfl))|(apply GOl_load;exact rfl;exact Ld_blk rfl QM rfl;exact rfl;exact rfl)|(apply GO_cond;exact rfl;all_goals (intro hc;try simp only [hcS,reduceCtorEq] at hc;try (exfalso;omega))))
    all_goals first
      | (exfalso;omega)
      | (exact GO_retV1 rfl rfl rfl rfl)
theorem enters_law (h : Ro) (s : Sli) (l : List RdS) (tb : FTie) (hb : RdsAt h s.A s.n l) (hbc : s.n ≤ s.c) (hf : BrFit l) (hsn : s.n ≤ 8796093022208) (x : FRes) : Val Tryz.prog 6 #[brV s tb,resV x] h (.bool true):=by
  refine Val_intro (args:=[_,_]) ts_ok Go.Proofs.Tryz.func6 rfl rfl fun w0 X0 => ?_
  have hsane:=sane21_c h
  have k1:=fun h' (hl : Le h h') => few21_c h' s l tb (hb.le hl) hf hsn
  have k4:=fun (hs : BrSm s l) h' (hl : Le h h') => enterBr_c h' s l tb (hb.le hl) hbc hs x
  by_cases hE : (enterB ⟨tb,rounds l⟩ x).2 = 0
  case' neg =>
    have hz:=enterB_err hE
    have hz2 : ∀ h' s' l',BrAt h' s' l' (enterB ⟨tb,rounds l⟩ x).1 → s'.n = 0:=fun h' s' l' hy => by
      have h1:=hy.is
      rw [hz] at h1
      have h2:=rounds_len l'
      rw [← h1] at h2
      have h3:=hy.rs.row.len
      rw [← h2] at h3
      exact h3.symm
    generalize enterB ⟨tb,rounds l⟩ x = E at *
    clear hz
    repeat' (first|apply GO_seq|apply GO_skip|apply GO_region|apply GOl_nil|(apply GOl_to;(iterate 3 exact rfl);apply OpTo_box (e:=36);exact rfl;intro b6)|(apply GOl_to;(iterate 3 exact rfl);apply OpTo_box (e:=40);exact rfl;intro b7)|(apply GOl_to;(iterate 3 exact rfl);apply OpTo_alloc (e:=36);exact rfl;intro b8)|(apply GOl_pv;(iterate 3 exact rfl))|(apply GOl_load;exact rfl;exact Ld_blk rfl QM rfl;exact rfl;exact rfl)|(apply GOl_to;(iterate 3 exact rfl);(first|(apply OpTo_store;(iterate 3 exact rfl);exact QR;(iterate 3 exact rfl);skip)|(apply OpTo_val;exact rfl;exact has8;exact hsane;skip)|(apply OpTo_res;exact rfl;exact has13;exact k1 _ (by first|exact Le.refl _|assumption|(repeat (first|assumption|(apply Le.trans;assumption))));rintro v1 h1 hle1 ⟨q,rfl,hq⟩;cases q;all_goals skip)|(apply OpTo_res;exact rfl;exact has16;exact k4 ((hq rfl).sm hf) _ (by first|exact Le.refl _|assumption|(repeat (first|assumption|(apply Le.trans;assumption))));rintro v4 h4 hle4 ⟨s4,l4,rfl,hb4⟩;(have hz4:=hz2 _ _ _ hb4);skip)))|(apply GO_cond;exact rfl;all_goals (intro hc;try simp only [hcS,reduceCtorEq] at hc;try (exfalso;omega))))
    all_goals first
      | (exact GO_retV1 rfl rfl rfl rfl)
      | (exact GO_retV1 rfl rfl rfl (congrArg Value.bool ((eqI_t _ _).mpr (by omega))))
      | (exfalso;omega)
      | (exfalso;simp at hc;done)
  obtain ⟨hB,hP⟩:=enter_played hE
  have hag:=enter_again hE
  have hM:=allLegs_le hB
  have hBs:=fun (_ : Unit) => hB
  have hEE : enterB ⟨tb,rounds l⟩ x = ((enterB ⟨tb,rounds l⟩ x).1,0):=Prod.ext rfl hE
  have hYt:=hP.t
  generalize hY : (enterB ⟨tb,rounds l⟩ x).1 = Y at *
  obtain ⟨yt,yr⟩:=Y
  dsimp only at hYt
  subst hYt
  rw [hEE] at k4
  dsimp only at k4
  have hPo:=hP.ok
  have hml : (allLegs ⟨yt,yr⟩).length = (allLegs ⟨yt,rounds l⟩).length + 1:=hP.legs
  have hgr:=hP.grow
  have hsa:=hP.same
  have hck:=champ_ok hPo
  dsimp only at hgr hsa
  have eqY : ∀ h' s' l',BrAt h' s' l' ⟨yt,yr⟩ → (⟨yt,rounds l'⟩ : FBr) = ⟨yt,yr⟩:=fun h' s' l' hy => by rw [← hy.is]
  have k5 : ∀ h' s' l',BrAt h' s' l' ⟨yt,yr⟩ → Res Tryz.prog 16 #[brV s' yt,resV x] h' (fun u h2 => BrOut h2 u br0 210):=fun h' s' l' hy => by
    have:=enterBr_c h' s' l' yt hy.rs hy.nc (brSm_ok hy hPo) x
    rw [eqY h' s' l' hy,hag] at this
    exact this
  have k6 : ∀ h' s' l',BrAt h' s' l' ⟨yt,yr⟩ → Res Tryz.prog 18 #[brV s' yt] h' (fun u _ => ∃ a ok,u = .tuple #[.int .i64 a,.bool ok,.int .i64 0]):=fun h' s' l' hy => by
    have:=champ_c h' s' l' yt hy.rs (brSm_ok hy hPo)
    rw [eqY h' s' l' hy] at this
    refine this.mono fun u h2 _ e => ⟨(champB ⟨yt,yr⟩).1,(champB ⟨yt,yr⟩).2.1,?_⟩
    rw [e,hck]
  have k7 : ∀ h' s' l',BrAt h' s' l' ⟨yt,yr⟩ → Val Tryz.prog 22 #[brV s' yt] h' (.int .i64 ((legsL (rounds l)).length + 1)):=fun h' s' l' hy => by
    have:=many21_c h' s' l' yt hy.rs (brSm_ok hy hPo) (by rw [← hy.is];exact hPo.rounds)
    rw [← hy.is] at this
    have e : ((legsL yr).length : Int) = (legsL (rounds l)).length + 1:=by
      have : (legsL yr).length = (legsL (rounds l)).length + 1:=hml
      omega
    rw [e] at this
    exact this
  have k8:=fun (hs : BrSm s l) h' (hl : Le h h') => many21_c h' s l yt (hb.le hl) hs hB.rounds
  have hM2 : (legsL (rounds l)).length ≤ 254:=hM
  have hrl:=rounds_len l
  have hll:=hb.row.len
  have hy4 : ∀ h' s' l',BrAt h' s' l' ⟨yt,yr⟩ → s'.n = yr.length:=fun h' s' l' hy => by
    have h1:=hy.is
    have h2:=rounds_len l'
    rw [← h1] at h2
    have h3:=hy.rs.row.len
    dsimp only at h2
    omega
  have hpos : 0 < s.n:=by
    rcases Nat.eq_zero_or_pos s.n with e|e
    · exact absurd (List.eq_nil_of_length_eq_zero (show (rounds l).length = 0 by omega)) hB.some
    · exact e
  clear hck hag hM hEE hE hB hP hml
  generalize legsL (rounds l) = L at *
  repeat' (first|apply GO_seq|apply GO_skip|apply GO_block|apply GO_region|apply GOl_nil|(apply GOl_to;(iterate 3 exact rfl);apply OpTo_box (e:=36);exact rfl;intro b6)|(apply GOl_to;(iterate 3 exact rfl);apply OpTo_box (e:=40);exact rfl;intro b7)|((fail_if_success (have:=b8));apply GOl_to;(iterate 3 exact rfl);apply OpTo_alloc (e:=36);exact rfl;intro b8)|(apply GOl_to;(iterate 3 exact rfl);apply OpTo_alloc (e:=36);exact rfl;intro b9)|(apply GOl_pv;(iterate 3 exact rfl))|(apply GOl_load;exact rfl;exact Ld_blk rfl QM rfl;exact rfl;exact rfl)|(apply GOl_to;(iterate 3 exact rfl);(first|(apply OpTo_store;(iterate 3 exact rfl);exact QR;(iterate 3 exact rfl);skip)|(apply OpTo_val;exact rfl;exact has8;exact hsane;skip)|(apply OpTo_res;exact rfl;exact has13;exact k1 _ (by first|exact Le.refl _|assumption|(repeat (first|assumption|(apply Le.trans;assumption))));rintro v1 h1 hle1 ⟨q,rfl,hq⟩;cases q;all_goals skip)|(apply OpTo_res;exact rfl;exact has16;(first|exact k5 _ _ _ (hb4.le (by first|exact Le.refl _|assumption|(repeat (first|assumption|(apply Le.trans;assumption)))))|exact k4 ((hq rfl).sm hf) _ (by first|exact Le.refl _|assumption|(repeat (first|assumption|(apply Le.trans;assumption)))));(first|(rintro v4 h4 hle4 ⟨s4,l4,rfl,hb4⟩;(have hn4:=hy4 _ _ _ hb4);skip)|(rintro v5 h5 hle5 ⟨s5,l5,rfl,hb5⟩;skip)))|(apply OpTo_res;exact rfl;exact has18;exact k6 _ _ _ (hb4.le (by first|exact Le.refl _|assumption|(repeat (first|assumption|(apply Le.trans;assumption)))));rintro v6 h6 hle6 ⟨a6,ok6,rfl⟩;skip)))|(apply GO_drawp (n:=10) [0,1,2,3,4,5,6,7,8,9,10,11,12,13,14,15,16,17,18,19,20,21,22,23,24,25,26,27,28,29,30,31,32,33,34,35,36,37,38,39] [(0,0),(1,0),(2,0),(3,0),(4,0),(5,0),(6,0),(7,0),(8,0),(9,0),(10,0),(11,0),(12,0),(13,0),(14,0),(16,0),(15,1),(17,1),(18,0),(19,0),(20,0),(21,0),(22,0),(23,0),(24,0),(25,0),(26,0),(27,0),(28,0),(29,0),(30,0),(31,0),(32,0),(33,0),(34,0),(35,0),(36,0),(37,0),(38,0),(39,0)];kernel_rfl)|(apply GP_add;exact rfl;kernel_rfl;(iterate 5 exact rfl);omega)|(apply GP_pv;exact rfl;kernel_rfl;(iterate 3 exact rfl))|(apply GP_loadB;exact rfl;kernel_rfl;(iterate 3 exact rfl);exact QM;exact rfl;exact rfl)|(apply GP_ov;exact rfl;kernel_rfl;exact rfl;exact rfl;(first|(apply OV_neqR;(iterate 3 exact rfl);kernel_rfl;kernel_rfl));exact QA)|(apply GP_real;exact rfl;kernel_rfl;(iterate 3 exact rfl);(first|(apply OpTo_val;exact rfl;exact has22;(first|exact k7 _ _ _ (hb4.le (by first|exact Le.refl _|assumption|(repeat (first|assumption|(apply Le.trans;assumption)))))|exact k8 ((hq rfl).sm hf) _ (by first|exact Le.refl _|assumption|(repeat (first|assumption|(apply Le.trans;assumption)))));refine ⟨Le.refl _,QN,?_⟩)))|(apply GP_done;kernel_rfl;exact rfl)|(apply GP_split;(iterate 5 exact rfl);all_goals (intro hc;try simp only [hcS,reduceCtorEq] at hc;try (exfalso;omega)))|(apply GO_cond;exact rfl;all_goals (intro hc;try simp only [hcS,reduceCtorEq] at hc;try (exfalso;omega))))
  all_goals (try (exact GO_retV1 rfl rfl rfl rfl))
  all_goals (try (exfalso;omega))
  all_goals (try (exfalso;simp at hc;done))
  have hl6 : Le h h6:=(by first|exact Le.refl _|assumption|(repeat (first|assumption|(apply Le.trans;assumption))))
  have hl46 : Le h4 h6:=(by first|exact Le.refl _|assumption|(repeat (first|assumption|(apply Le.trans;assumption))))
  have hsm:=(hq rfl).sm hf
  have hb6:=hb.le hl6
  have hb46:=hb4.le hl46
  have hr1:=hb6.row
  have hr2:=hb46.rs.row
  have hl2:=hr2.len
  have his:=hb4.is
  dsimp only at his
  subst his
  have hrl4:=rounds_len l4
  clear k1 k4 k5 k6 k7 k8 hsane hy4
  refine GO_loopT (X:=Nat) (fun i => i ≤ s.n) (fun i => s.n - i) (fun i => [(12,.int .i64 i),(5,ptrB b8),(2,ptrB b6)]) (fun _ => [Blk b6 36 (brC s yt),Blk b8 36 (brC s4 yt)]) (fun _ => h6) 0 (by omega) QS QT rfl ?_
  rintro i hi ih
  by_cases hin : i + 1 < s.n
  · have ra:=hr1.addrD (show i < s.n by omega)
    have rb:=hr2.addrD (show i < s4.n by omega)
    have rc : CellsAt h6 ((addrD s.A).add (i * ty53.size)) (encRd (l.getD i rd0)):=hr1.cellsD rd0 (show i < s.n by omega)
    have rd : CellsAt h6 ((addrD s4.A).add (i * ty53.size)) (encRd (l4.getD i rd0)):=hr2.cellsD rd0 (show i < s4.n by omega)
    have hm1:=hb6.each _ (mem7 rd0 (show i < l.length by omega))
    have hRn:=hsm.each _ (mem7 rd0 (show i < l.length by omega))
    have hRg:=hsm.legs _ (mem7 rd0 (show i < l.length by omega))
    have hm2:=hb46.rs.each _ (mem7 rd0 (show i < l4.length by omega))
    have ed:=hsa i (by omega)
    rw [rounds_getD,rounds_getD] at ed
    generalize l.getD i rd0 = R at *
    generalize l4.getD i rd0 = Q at *
    have hRl:=hm1.1.row.len
    have hQl:=hm2.1.row.len
    have hRQ : R.1.n = Q.1.n:=by rw [← hRl,← hQl,← duels_len R.2,← duels_len Q.2,ed]
    have ih2:=ih (i + 1) (by omega) (by omega)
    clear ih
    repeat' (first|apply GO_seq|apply GO_skip|apply GO_block|apply GO_region|apply GOl_nil|(apply GOl_add;(iterate 3 exact rfl);omega;exact rfl;exact rfl)|(apply GOl_pv;(iterate 3 exact rfl))|(apply GOl_load;exact rfl;exact Ld_blk rfl QM rfl;exact rfl;exact rfl)|(apply GO_drawp (n:=15) [0,1,2,3,4,5,6,7,8,9,10,11,12] [(0,0),(1,0),(2,0),(3,0),(4,0),(5,0),(6,0),(7,0),(8,0),(9,0),(10,0),(11,0),(12,0)];kernel_rfl)|(apply GP_pv;exact rfl;kernel_rfl;(iterate 3 exact rfl))|(apply GP_loadB;exact rfl;kernel_rfl;(iterate 3 exact rfl);exact QM;exact rfl;exact rfl)|(apply GP_ov;exact rfl;kernel_rfl;exact rfl;exact rfl;(first|(apply OV_idxS (j:=i) (n:=s.n);(iterate 5 exact rfl);exact ra;(with_reducible exact rfl);omega)|(apply OV_idxS (j:=i) (n:=s4.n);(iterate 5 exact rfl);exact rb;(with_reducible exact rfl);omega)|(apply OV_load;exact rfl;first|exact Lv_ro rfl rc rfl|exact Lv_ro rfl rd rfl));exact QA)|(apply GP_done;kernel_rfl;exact rfl)|(apply GO_cond;exact rfl;all_goals (intro hc;try simp only [hcS,reduceCtorEq] at hc;try (exfalso;omega))))
    all_goals (try (exfalso;omega))
    refine GO_loopT (X:=Nat) (fun k => k ≤ R.1.n) (fun k => R.1.n - k) (fun k => [(13,.int .i64 k),(12,.int .i64 i),(5,ptrB b8),(2,ptrB b6)]) (fun _ => [Blk b6 36 (brC s yt),Blk b8 36 (brC s4 yt)]) (fun _ => h6) 0 (by omega) QS QT rfl ?_
    rintro k hk ihk
    by_cases hkn : k < R.1.n
    · have a1:=hm1.1.row.addrD hkn
      have a2:=hm2.1.row.addrD (show k < Q.1.n by omega)
      have c1 : CellsAt h6 ((addrD R.1.A).add (k * ty24.size)) (encDu (R.2.getD k du0)):=hm1.1.row.cellsD du0 hkn
      have c2 : CellsAt h6 ((addrD Q.1.A).add (k * ty24.size)) (encDu (Q.2.getD k du0)):=hm2.1.row.cellsD du0 (show k < Q.1.n by omega)
      have hd1:=hm1.1.each _ (mem7 du0 (show k < R.2.length by omega))
      have hd2:=hm2.1.each _ (mem7 du0 (show k < Q.2.length by omega))
      have hpn:=hRg _ (mem7 du0 (show k < R.2.length by omega))
      have ee:=duels_same ed.symm (show k < R.2.length by omega)
      generalize R.2.getD k du0 = p at *
      generalize Q.2.getD k du0 = q at *
      obtain ⟨p1,p2⟩:=p
      obtain ⟨q1,q2⟩:=q
      dsimp only at ee
      subst ee
      have hsd:=sameDu21_c h6 p1 q1 p2 hd1 hd2 hpn
      have h9:=ihk (k + 1) (by omega) (by omega)
      clear ihk ih2
      repeat' (first|apply GO_seq|apply GO_skip|apply GO_inBlock|apply GO_block|apply GO_region|apply GOl_nil|(apply GOl_add;(iterate 3 exact rfl);omega;exact rfl;exact rfl)|(apply GOl_pv;(iterate 3 exact rfl))|(apply GOl_load;exact rfl;exact Ld_blk rfl QM rfl;exact rfl;exact rfl)|(apply GOl_ov;exact rfl;exact rfl;(first|(apply OV_idxS (j:=i) (n:=s.n);(iterate 5 exact rfl);exact ra;(with_reducible exact rfl);omega)|(apply OV_load;exact rfl;first|exact Lv_ro rfl rc rfl|exact Lv_ro rfl rd rfl|exact Lv_ro rfl c1 rfl|exact Lv_ro rfl c2 rfl));exact QA)|(apply GO_drawp (n:=20) [0,1,2,3,4,5,6,7,8,9,10,11,12,13,14,15,16,17] [(0,0),(1,0),(2,0),(3,0),(4,0),(5,0),(6,0),(7,0),(8,0),(9,0),(10,0),(11,0),(12,0),(13,0),(14,0),(15,0),(16,1),(17,0)];kernel_rfl)|(apply GP_pv;exact rfl;kernel_rfl;(iterate 3 exact rfl))|(apply GP_loadB;exact rfl;kernel_rfl;(iterate 3 exact rfl);exact QM;exact rfl;exact rfl)|(apply GP_ov;exact rfl;kernel_rfl;exact rfl;exact rfl;(first|(apply OV_idxS (j:=i) (n:=s.n);(iterate 5 exact rfl);exact ra;(with_reducible exact rfl);omega)|(apply OV_idxS (j:=i) (n:=s4.n);(iterate 5 exact rfl);exact rb;(with_reducible exact rfl);omega)|(apply OV_idxS (j:=k) (n:=R.1.n);(iterate 5 exact rfl);exact a1;(with_reducible exact rfl);omega)|(apply OV_idxS (j:=k) (n:=Q.1.n);(iterate 5 exact rfl);exact a2;(with_reducible exact rfl);omega)|(apply OV_load;exact rfl;first|exact Lv_ro rfl rc rfl|exact Lv_ro rfl rd rfl|exact Lv_ro rfl c1 rfl|exact Lv_ro rfl c2 rfl));exact QA)|(apply GP_real;exact rfl;kernel_rfl;(iterate 3 exact rfl);(first|(apply OpTo_val;exact rfl;exact has23;exact hsd;refine ⟨Le.refl _,QN,?_⟩)))|(apply GP_done;kernel_rfl;exact rfl)|(apply GO_cond;exact rfl;all_goals (intro hc;try simp only [hcS,reduceCtorEq] at hc;try (exfalso;omega))))
      all_goals first
        | (exfalso;omega)
        | (exfalso;simp at hc;done)
        | (refine GO_fit QS QT (h9))
    · clear ihk
      repeat' (first|apply GO_seq|apply GO_inBlock|apply GO_region|apply GOl_nil|(apply GO_exit;exact rfl)|(apply GOl_add;(iterate 3 exact rfl);omega;exact rfl;exact rfl)|(apply GOl_pv;(iterate 3 exact rfl))|(apply GOl_load;exact rfl;exact Ld_blk rfl QM rfl;exact rfl;exact rfl)|(apply GOl_ov;exact rfl;exact rfl;(first|(apply OV_idxS (j:=i) (n:=s.n);(iterate 5 exact rfl);exact ra;(with_reducible exact rfl);omega)|(apply OV_load;exact rfl;exact Lv_ro rfl rc rfl));exact QA)|(apply GO_cond;exact rfl;all_goals (intro hc;try simp only [hcS,reduceCtorEq] at hc;try (exfalso;omega))))
      all_goals first
        | (exfalso;omega)
        | (refine GO_fit QS QT (ih2))
  · clear ih
    repeat' (first|apply GO_seq|apply GO_region|apply GOl_nil|(apply GO_exit;exact rfl)|(apply GOl_add;(iterate 3 exact rfl);omega;exact rfl;exact rfl)|(apply GOl_pv;(iterate 3 exact rfl))|(apply GOl_load;exact rfl;exact Ld_blk rfl QM rfl;exact rfl;exact rfl)|(apply GO_cond;exact rfl;all_goals (intro hc;try simp only [hcS,reduceCtorEq] at hc;try (exfalso;omega))))
    all_goals first
      | (exfalso;omega)
      | (exact GO_retV1 rfl rfl rfl rfl)
end Go.Hw

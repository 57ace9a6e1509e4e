import Derived.Test.YtphlhpbmkejbaaaGreatDoorBC
import Derived.Test.YtphlhpbmkejbaaaGreatDoorFE
set_option linter.unusedVariables false
set_option linter.unusedSimpArgs false
set_option maxRecDepth 100000
set_option maxHeartbeats 8000000
namespace Go.Hw
open Go
attribute [local irreducible] GO GOl GDp Val Fn Res CellsAt ValE Blk OwnS MapA OwnPf Has Yl
open Go.Proofs (Tryz.prog)
theorem addF (b m f : Nat) : ((⟨b,0,none⟩ : Addr).add m).add f = ⟨b,m + f,none⟩:=by rw [add_off,add_off,Nat.zero_add]
theorem addZ (b m : Nat) : (⟨b,0,none⟩ : Addr).add m = ⟨b,m,none⟩:=by rw [add_off,Nat.zero_add]
theorem duels_set (l : List DuS) (i : Nat) (z : DuS) : duels (l.set i z) = (duels l).set i z.2:=by unfold duels;exact List.map_set
theorem rounds_take (l : List RdS) (n : Nat) : rounds (l.take n) = (rounds l).take n:=by unfold rounds;exact List.map_take
structure EntI (h : Ro) (s : Sli) (l : List RdS) (t : FTie) (x : FRes) (R : RdS) (m : List FDuel) (e : FDuel) (i : Nat) (ps : Sli) (d : FDuel) : Prop where
  rm : R ∈ l
  at' : R.2[i]? = some (ps,d)
  eq : e = ⟨d.a,d.b,d.ls ++ [x]⟩
  set : m = (duels R.2).set i e
  wait : WaitD d t x
  pos : 0 < R.1.n
  dok : DuelOk d t
theorem EntI.dug {h h' : Ro} {s : Sli} {l : List RdS} {t : FTie} {x : FRes} {R : RdS} {m : List FDuel} {e : FDuel} {i : Nat} {ps : Sli} {d : FDuel} (q : EntI h s l t x R m e i ps d) (hx : ResOk x) (hdl : d.ls.length = ps.n) {A : Option Addr} {c : Nat} (hs : SlOf resC 13 h' A (ps.n + 1) (d.ls ++ [x])) (hc : ps.n + 1 ≤ c) : DuG h' ⟨A,ps.n + 1,c⟩ e:=by
  rw [q.eq]
  refine ⟨⟨hs,hc⟩,?_,fun y hy => ?_⟩
  · have h1:=q.wait.1
    have h2:=q.dok.ok0.1
    unfold FullD at h1
    unfold IsTie at h2
    show ps.n + 1 ≤ 2
    omega
  · rcases List.mem_append.1 hy with w|w
    · exact q.dok.res y w
    · rw [List.mem_singleton.1 w];exact hx
theorem EntI.round {h h' : Ro} {s : Sli} {l : List RdS} {t : FTie} {x : FRes} {R : RdS} {m : List FDuel} {e : FDuel} {i : Nat} {ps : Sli} {d : FDuel} (q : EntI h s l t x R m e i ps d) (hR : RdAt h' R) {z : Sli} (hz : DuAt h' (z,e)) {A : Option Addr} {c : Nat} (hs : SlOf encDu 3 h' A R.1.n (R.2.set i (z,e))) (hc : R.1.n ≤ c) : RdAt h' (⟨A,R.1.n,c⟩,R.2.set i (z,e)) :=
  ⟨⟨hs,fun p hp => by
    rcases List.mem_or_eq_of_mem_set hp with w|w
    · exact hR.1.each p w
    · rw [w];exact hz⟩,hc⟩
theorem entOut {h : Ro} {A : Option Addr} {n c k : Nat} {l q : List RdS} {t : FTie} {m : List (List FDuel)} (hl : ∀ r ∈ l,RdAt h r) (hq : ∀ r ∈ q,RdAt h r) (hs : SlOf encRd 1 h A n (l.take k ++ q)) (hc : n ≤ c) (hm : rounds q = m) : BrOut h (.tuple #[brV ⟨A,n,c⟩ t,.int .i64 0]) ⟨t,(rounds l).take k ++ m⟩ 0 :=
  ⟨⟨A,n,c⟩,l.take k ++ q,rfl,⟨⟨hs,fun r hr => by
    rcases List.mem_append.1 hr with w|w
    · exact hl r (List.mem_of_mem_take w)
    · exact hq r w⟩,by
      show (rounds l).take k ++ m = rounds (l.take k ++ q)
      rw [← hm,← rounds_take]
      unfold rounds;rw [List.map_append],hc⟩⟩
theorem winV_form (d : FDuel) (t : FTie) (h : ¬ (FullD d t ∧ winD d t = none)) : ∃ w ok,winV d t = .tuple #[.int .i64 w,.bool ok] ∧ (decide (FullD d t) = true → ok = true):=by
  cases hw : winD d t with
  | none =>
    obtain ⟨q,hq⟩:=winV_none hw
    exact ⟨q,false,hq,fun k => absurd ⟨of_decide_eq_true k,hw⟩ h⟩
  | some w => exact ⟨w,true,winV_some hw,fun _ => rfl⟩
theorem waitAt_pos {t : FTie} {x : FRes} {l : List FDuel} {i : Nat} (h : waitAt t x l 0 = ((0 + i : Nat) : Int)) : waitAt t x l 0 = (i : Int):=by rw [h];congr 1;omega
open Classical in
theorem enterBr_c (h : Ro) (s : Sli) (l : List RdS) (t : FTie) (hb : RdsAt h s.A s.n l) (hnc : s.n ≤ s.c) (hs : BrSm s l) (x : FRes) : Res Tryz.prog 16 #[brV s t,resV x] h (fun u h' => BrOut h' u (enterB ⟨t,rounds l⟩ x).1 (enterB ⟨t,rounds l⟩ x).2):=by
  refine Res_intro (args:=[_,_]) ts_ok Go.Proofs.Tryz.func16 rfl rfl fun w0 X0 => ?_
  have hck:=fun h' (hl : Le h h') => checkB_c h' s l t (hb.le hl) hs
  have hrc:=fun h' => check12_c h' x
  by_cases hB : BrOk ⟨t,rounds l⟩
  case' neg =>
    simp only [decide_eq_false hB] at hck
    rw [enterB_bad hB]
    dsimp only
    clear hrc
    repeat' (first|apply GO_seq|apply GO_region|apply GOl_nil|(apply GOl_to;(iterate 3 exact rfl);apply OpTo_box (e:=36);exact rfl;intro b2)|(apply GOl_to;(iterate 3 exact rfl);apply OpTo_box (e:=40);exact rfl;intro b3)|(apply GOl_to;(iterate 3 exact rfl);apply OpTo_alloc (e:=36);exact rfl;intro b4)|(apply GOl_pv;(iterate 3 exact rfl))|(apply GOl_load;exact rfl;exact Ld_blk rfl QM rfl;exact rfl;exact rfl)|(apply GOl_to;(iterate 3 exact rfl);(first|(apply OpTo_store;(iterate 3 exact rfl);exact QR;(iterate 3 exact rfl);skip)|(apply OpTo_res;exact rfl;exact has44;exact hck _ (by first|exact Le.refl _|assumption|(repeat (first|assumption|(apply Le.trans;assumption))));rintro v2 h2 hle2 rfl;skip)))|(apply GO_cond;exact rfl;all_goals (intro hc;try simp only [hcS,reduceCtorEq] at hc;try (exfalso;omega))))
    all_goals first
      | (exfalso;simp at hc;done)
      | (exact GO_retRC2 rfl rfl rfl QM rfl rfl rfl (brOut_zero _ _))
  simp only [decide_eq_true hB] at hck
  by_cases hX : ResOk x
  case' neg =>
    simp only [if_neg hX] at hrc
    rw [enterB_res hB hX]
    dsimp only
    repeat' (first|apply GO_seq|apply GO_skip|apply GO_region|apply GOl_nil|(apply GOl_to;(iterate 3 exact rfl);apply OpTo_box (e:=36);exact rfl;intro b2)|(apply GOl_to;(iterate 3 exact rfl);apply OpTo_box (e:=40);exact rfl;intro b3)|(apply GOl_to;(iterate 3 exact rfl);apply OpTo_alloc (e:=36);exact rfl;intro b4)|(apply GOl_pv;(iterate 3 exact rfl))|(apply GOl_load;exact rfl;exact Ld_blk rfl QM rfl;exact rfl;exact rfl)|(apply GOl_to;(iterate 3 exact rfl);(first|(apply OpTo_store;(iterate 3 exact rfl);exact QR;(iterate 3 exact rfl);skip)|(apply OpTo_res;exact rfl;exact has44;exact hck _ (by first|exact Le.refl _|assumption|(repeat (first|assumption|(apply Le.trans;assumption))));rintro v2 h2 hle2 rfl;skip)|(apply OpTo_res;exact rfl;exact has30;exact hrc _;rintro v3 h3 hle3 rfl;skip)))|(apply GO_cond;exact rfl;all_goals (intro hc;try simp only [hcS,reduceCtorEq] at hc;try (exfalso;omega))))
    all_goals first
      | (exfalso;simp at hc;done)
      | (exfalso;omega)
      | (exact GO_retRC2 rfl rfl rfl QM rfl rfl rfl (brOut_zero _ _))
  simp only [if_pos hX] at hrc
  have hlen:=hb.row.len
  have hrow:=hb.row
  have hrl : (rounds l).length = s.n:=by rw [rounds_len,hlen]
  have h0 : 0 < s.n:=by
    rcases Nat.eq_zero_or_pos s.n with e|e
    · exact absurd (List.eq_nil_of_length_eq_zero (show (rounds l).length = 0 by omega)) hB.some
    · exact e
  obtain ⟨hlast,hdrop⟩:=take_last hrl h0
  have hnn:=hs.few
  have ra:=hrow.addrD (show s.n - 1 < s.n by omega)
  have rc : CellsAt h ((addrD s.A).add ((s.n - 1) * ty53.size)) (encRd (l.getD (s.n - 1) rd0)):=hrow.cellsD rd0 (show s.n - 1 < s.n by omega)
  have hRm:=mem7 rd0 (show s.n - 1 < l.length by omega)
  rw [rounds_getD] at hlast
  have hRa:=hb.each _ hRm
  have hRn:=hs.each _ hRm
  have hRin:=last_in hB
  dsimp only at hRin
  rw [hlast] at hRin
  have hRok:=hB.rounds _ hRin
  have hRpow:=(hB.rnd _ hRin).pow
  dsimp only at hRok
  rw [duels_len] at hRpow
  have hEn:=enterB_none hB hX
  have hEno:=fun m e k c => enterB_no hB hX (m:=m) (d:=e) k c
  have hEy:=fun m e k c => enterB_yes hB hX (m:=m) (d:=e) k c
  dsimp only at hEn hEno hEy
  rw [hlast] at hEn hEno hEy
  rw [hdrop] at hEy
  generalize l.getD (s.n - 1) rd0 = R at *
  have hRl:=hRa.1.row.len
  have hRp : 0 < R.1.n:=by unfold IsPow1 at hRpow;omega
  have hclo:=fun h' (hl : Le h h') => Fn.formB hRp (cloneDu_c h' R.1.A R.1.n R.1.c R.2 (hRa.1.row.le hl) (by omega))
  have hidx:=fun h' b7 c7 b2 b3 => enterIdx_c h' b7 c7 b2 b3 R.1.n s t x R.2 hRl (by omega) fun p hp => (hRa.1.each p hp).len
  generalize hEE : enterB ⟨t,rounds l⟩ x = E at *
  cases hen : enterR (duels R.2) t x with
  | none =>
    rw [hEn hen]
    dsimp only
    rw [waitAt_none 0 hen] at hidx
    clear hEn hEno hEy
    repeat' (first|apply GO_seq|apply GO_skip|apply GO_region|apply GOl_nil|(apply GOl_to;(iterate 3 exact rfl);apply OpTo_box (e:=36);exact rfl;intro b2)|(apply GOl_to;(iterate 3 exact rfl);apply OpTo_box (e:=40);exact rfl;intro b3)|(apply GOl_to;(iterate 3 exact rfl);apply OpTo_alloc (e:=36);exact rfl;intro b4)|(apply GOl_unwanted;exact rfl;exact rfl)|(apply GOl_sub;(iterate 3 exact rfl);omega;exact rfl;exact rfl)|(apply GOl_pv;(iterate 3 exact rfl))|(apply GOl_load;exact rfl;exact Ld_blk rfl QM rfl;exact rfl;exact rfl)|(apply GOl_ov;exact rfl;exact rfl;(first|(apply OV_idxS (j:=s.n - 1) (n:=s.n);(iterate 5 exact rfl);exact ra;omega;omega)|(apply OV_load;exact rfl;exact Lv_ro rfl (rc.le (by first|exact Le.refl _|assumption|(repeat (first|assumption|(apply Le.trans;assumption))))) rfl));exact QA)|(apply GOl_to;(iterate 3 exact rfl);(first|(apply OpTo_store;(iterate 3 exact rfl);exact QR;(iterate 3 exact rfl);skip)|(apply OpTo_res;exact rfl;exact has44;exact hck _ (by first|exact Le.refl _|assumption|(repeat (first|assumption|(apply Le.trans;assumption))));rintro v2 h2 hle2 rfl;skip)|(apply OpTo_res;exact rfl;exact has30;exact hrc _;rintro v3 h3 hle3 rfl;skip)|(apply OpTo_callP;exact rfl;exact has45;exact hclo _ (by first|exact Le.refl _|assumption|(repeat (first|assumption|(apply Le.trans;assumption))));exact QT;rintro v4 E4 h4 hle4 ⟨b7,c7,hc7,rfl,rfl⟩;skip)|(apply OpTo_valT;exact rfl;exact has46;exact hidx _ b7 c7 b2 b3;exact QT;skip)))|(apply GO_cond;exact rfl;all_goals (intro hc;try simp only [hcS,reduceCtorEq] at hc;try (exfalso;omega)))|(apply GOl_split;exact rfl;exact rfl;all_goals (intro hc;try simp only [hcS,reduceCtorEq] at hc;try (exfalso;omega))))
    all_goals first
      | (exfalso;simp at hc;done)
      | (exfalso;omega)
      | (exact GO_retRC2 rfl rfl rfl QM rfl rfl rfl (brOut_zero _ _))
  | some w =>
  obtain ⟨m,e⟩:=w
  obtain ⟨i,d,hi,hw,hld,hwd,hed,hms⟩:=waitAt_some 0 hen
  have hw:=waitAt_pos hw
  rw [hw] at hidx
  obtain ⟨ps,hps⟩ : ∃ ps,R.2[i]? = some (ps,d):=by
    unfold duels at hld
    rw [List.getElem?_map] at hld
    cases h9 : R.2[i]? with
    | none => rw [h9] at hld;cases hld
    | some p => rw [h9] at hld;cases hld;exact ⟨p.1,rfl⟩
  have hi2 : i < R.1.n:=by rw [duels_len] at hi;omega
  have hpm : (ps,d) ∈ R.2:=List.mem_of_getElem? hps
  have hda:=hRa.1.each _ hpm
  have hdl:=hda.len
  dsimp only at hdl
  have hQ : EntI h s l t x R m e i ps d:=⟨hRm,hps,hed,hms,hwd,hRp,(hRok d (List.mem_map.2 ⟨_,hpm,rfl⟩)).1⟩
  have hEno2:=hEno m e hen
  have hEy2:=hEy m e hen
  clear hEn hEno hEy hw hld hi hRin hRpow
  by_cases h8 : 8 ≤ x.g.c
  case' neg =>
    rw [hEno2 (fun k => h8 k.1)]
    dsimp only
    clear hEno2 hEy2
    repeat' (first|apply GO_seq|apply GO_skip|apply GO_region|apply GOl_nil|(apply GOl_to;(iterate 3 exact rfl);apply OpTo_box (e:=36);exact rfl;intro b2)|(apply GOl_to;(iterate 3 exact rfl);apply OpTo_box (e:=40);exact rfl;intro b3)|(apply GOl_to;(iterate 3 exact rfl);apply OpTo_alloc (e:=36);exact rfl;intro b4)|(apply GOl_sub;(iterate 3 exact rfl);omega;exact rfl;exact rfl)|(apply GOl_pv;(iterate 3 exact rfl))|(apply GOl_load;exact rfl;exact Ld_blk rfl QM rfl;exact rfl;exact rfl)|(apply GOl_ov;exact rfl;exact rfl;(first|(apply OV_idxS (j:=s.n - 1) (n:=s.n);(iterate 5 exact rfl);exact ra;omega;omega)|(apply OV_load;exact rfl;exact Lv_ro rfl (rc.le (by first|exact Le.refl _|assumption|(repeat (first|assumption|(apply Le.trans;assumption))))) rfl));exact QA)|(apply GOl_to;(iterate 3 exact rfl);(first|(apply OpTo_store;(iterate 3 exact rfl);exact QR;(iterate 3 exact rfl);skip)|(apply OpTo_res;exact rfl;exact has44;exact hck _ (by first|exact Le.refl _|assumption|(repeat (first|assumption|(apply Le.trans;assumption))));rintro v2 h2 hle2 rfl;skip)|(apply OpTo_res;exact rfl;exact has30;exact hrc _;rintro v3 h3 hle3 rfl;skip)|(apply OpTo_callP;exact rfl;exact has45;exact hclo _ (by first|exact Le.refl _|assumption|(repeat (first|assumption|(apply Le.trans;assumption))));exact QT;rintro v4 E4 h4 hle4 ⟨b7,c7,hc7,rfl,rfl⟩;skip)|(apply OpTo_valT;exact rfl;exact has46;exact hidx _ b7 c7 b2 b3;exact QT;skip)))|(apply GO_cond;exact rfl;all_goals (intro hc;try simp only [hcS,reduceCtorEq] at hc;try (exfalso;omega)))|(apply GOl_split;exact rfl;exact rfl;all_goals (intro hc;try simp only [hcS,reduceCtorEq] at hc;try (exfalso;omega))))
    all_goals first
      | (exfalso;simp at hc;done)
      | (exfalso;omega)
      | (exact GO_retRC2 rfl rfl rfl QM rfl rfl rfl (brOut_zero _ _))
  have hEno3 : (¬ ∀ y ∈ legsL (rounds l),SameCup y x) → E = (br0,210):=fun k => hEno2 (fun w => k w.2.1)
  have hEno4 : FullD e t ∧ winD e t = none → E = (br0,210):=fun k => hEno2 (fun w => w.2.2 k)
  have hEy3 : (∀ y ∈ legsL (rounds l),SameCup y x) → ¬ (FullD e t ∧ winD e t = none) → _:=fun k k2 => hEy2 ⟨h8,k,k2⟩
  have hcu:=hB.cup
  rw [legsL_all] at hcu
  dsimp only at hcu
  clear hEno2 hEy2
  repeat' (first|apply GO_seq|apply GO_skip|apply GO_block|apply GO_region|apply GOl_nil|(apply GOl_to;(iterate 3 exact rfl);apply OpTo_box (e:=36);exact rfl;intro b2)|(apply GOl_to;(iterate 3 exact rfl);apply OpTo_box (e:=40);exact rfl;intro b3)|(apply GOl_to;(iterate 3 exact rfl);apply OpTo_alloc (e:=36);exact rfl;intro b4)|(apply GOl_sub;(iterate 3 exact rfl);omega;exact rfl;exact rfl)|(apply GOl_pv;(iterate 3 exact rfl))|(apply GOl_load;exact rfl;exact Ld_blk rfl QM rfl;exact rfl;exact rfl)|(apply GOl_ov;exact rfl;exact rfl;(first|(apply OV_idxS (j:=s.n - 1) (n:=s.n);(iterate 5 exact rfl);exact ra;omega;omega)|(apply OV_load;exact rfl;exact Lv_ro rfl (rc.le (by first|exact Le.refl _|assumption|(repeat (first|assumption|(apply Le.trans;assumption))))) rfl));exact QA)|(apply GOl_to;(iterate 3 exact rfl);(first|(apply OpTo_res;exact rfl;exact has44;exact hck _ (by first|exact Le.refl _|assumption|(repeat (first|assumption|(apply Le.trans;assumption))));rintro v2 h2 hle2 rfl;skip)|(apply OpTo_res;exact rfl;exact has30;exact hrc _;rintro v3 h3 hle3 rfl;skip)|(apply OpTo_callP;exact rfl;exact has45;exact hclo _ (by first|exact Le.refl _|assumption|(repeat (first|assumption|(apply Le.trans;assumption))));exact QT;rintro v4 E4 h4 hle4 ⟨b7,c7,hc7,rfl,rfl⟩;skip)|(apply OpTo_valT;exact rfl;exact has46;exact hidx _ b7 c7 b2 b3;exact QT;skip)))|(apply GO_cond;exact rfl;all_goals (intro hc;try simp only [hcS,reduceCtorEq] at hc;try (exfalso;omega)))|(apply GOl_split;exact rfl;exact rfl;all_goals (intro hc;try simp only [hcS,reduceCtorEq] at hc;try (exfalso;omega))))
  all_goals (try (exfalso;simp at hc;done))
  all_goals (try (exfalso;omega))
  have hl4 : Le h h4:=(by first|exact Le.refl _|assumption|(repeat (first|assumption|(apply Le.trans;assumption))))
  clear hck hrc hclo hidx rc
  refine GO_loopT (X:=Nat) (fun j => j ≤ s.n ∧ ∀ r ∈ (rounds l).take j,∀ d ∈ r,d.ls ≠ [] → SameCup (d.ls.headD res0) x) (fun j => s.n - j)
    (fun j => [(53,.int .i64 j),(52,.int .i64 s.n),(51,.slice s.A s.n s.c),(7,.slice (some ⟨b7,0,none⟩) R.1.n c7),(8,.int .i64 i),(6,.int .i64 ((s.n : Int) - 1)),(2,ptrB b2),(3,ptrB b3),(4,ptrB b4)])
    (fun _ => [OwnS 24 3 (.slice (some ⟨b7,0,none⟩) R.1.n c7) R.1.n (R.2.flatMap encDu),Blk b2 36 (brC s t),Blk b3 40 (resC x),Blk b4 36 (partL ty36.zero)]) (fun _ => h4) 0 ⟨by omega,by simp⟩ QS QT rfl ?_
  rintro j ⟨hj,hJ⟩ ih
  by_cases hjn : j < s.n
  · have ra1:=hrow.addrD hjn
    have rc1 : CellsAt h4 ((addrD s.A).add (j * ty53.size)) (encRd (l.getD j rd0)):=(hrow.cellsD rd0 hjn).le hl4
    have hm1:=mem7 rd0 (show j < l.length by omega)
    have hr1:=(hb.each _ hm1).le hl4
    have htk:=take_rounds l (i:=j) (by omega)
    have hin1 : duels (l.getD j rd0).2 ∈ rounds l:=List.mem_map.2 ⟨_,hm1,rfl⟩
    have ih1:=fun (k : ∀ d ∈ duels (l.getD j rd0).2,d.ls ≠ [] → SameCup (d.ls.headD res0) x) => ih (j + 1) ⟨by omega,by
      rw [htk]
      intro r hr
      rcases List.mem_append.1 hr with w|w
      · exact hJ r w
      · rw [List.mem_singleton.1 w];exact k⟩ (by omega)
    generalize l.getD j rd0 = R1 at *
    have h1l:=hr1.1.row.len
    have h1row:=hr1.1.row
    have h1n:=hs.each _ hm1
    clear ih htk
    repeat' (first|apply GO_seq|apply GO_skip|apply GO_block|apply GO_region|apply GOl_nil|(apply GOl_pv;(iterate 3 exact rfl))|(apply GOl_ov;exact rfl;exact rfl;(first|(apply OV_idxS (j:=j) (n:=s.n);(iterate 5 exact rfl);exact ra1;(with_reducible exact rfl);omega)|(apply OV_load;exact rfl;exact Lv_ro rfl rc1 rfl));exact QA)|(apply GO_cond;exact rfl;all_goals (intro hc;try simp only [hcS,reduceCtorEq] at hc;try (exfalso;omega))))
    all_goals (try (exfalso;omega))
    refine GO_loopT (X:=Nat) (fun k => k ≤ R1.1.n ∧ ∀ d ∈ duels (R1.2.take k),d.ls ≠ [] → SameCup (d.ls.headD res0) x) (fun k => R1.1.n - k)
      (fun k => [(59,.int .i64 k),(58,.int .i64 R1.1.n),(57,.slice R1.1.A R1.1.n R1.1.c),(53,.int .i64 j),(52,.int .i64 s.n),(51,.slice s.A s.n s.c),(7,.slice (some ⟨b7,0,none⟩) R.1.n c7),(8,.int .i64 i),(6,.int .i64 ((s.n : Int) - 1)),(2,ptrB b2),(3,ptrB b3),(4,ptrB b4)])
      (fun _ => [OwnS 24 3 (.slice (some ⟨b7,0,none⟩) R.1.n c7) R.1.n (R.2.flatMap encDu),Blk b2 36 (brC s t),Blk b3 40 (resC x),Blk b4 36 (partL ty36.zero)]) (fun _ => h4) 0 ⟨by omega,fun d hd => absurd hd (by rw [List.take_zero];simp [duels])⟩ QS QT rfl ?_
    rintro k ⟨hk,hK⟩ ihk
    by_cases hkn : k < R1.1.n
    · have a1:=h1row.addrD hkn
      have c1 : CellsAt h4 ((addrD R1.1.A).add (k * ty24.size)) (encDu (R1.2.getD k du0)):=h1row.cellsD du0 hkn
      have hmk:=mem7 du0 (show k < R1.2.length by omega)
      have hdk:=hr1.1.each _ hmk
      have hsn:=dus_getD R1.2 (j:=k) (by omega)
      generalize R1.2.getD k du0 = p at *
      obtain ⟨qs,qd⟩:=p
      have hql:=hdk.len
      have hqr:=hdk.1
      dsimp only at hql hsn hqr
      have hmd : qd ∈ duels R1.2:=List.mem_map.2 ⟨_,hmk,rfl⟩
      have ih2:=fun (w : qd.ls ≠ [] → SameCup (qd.ls.headD res0) x) => ihk (k + 1) ⟨by omega,by
        rw [hsn]
        intro d' hd'
        rcases List.mem_append.1 hd' with v|v
        · exact hK d' v
        · rw [List.mem_singleton.1 v];exact w⟩ (by omega)
      clear ihk ih1 hsn hK hJ
      by_cases hz : qs.n = 0
      · have h9:=ih2 fun w => absurd (List.eq_nil_of_length_eq_zero (by omega)) w
        clear ih2 hEno3 hEno4 hEy3
        repeat' (first|apply GO_seq|apply GO_skip|apply GO_inBlock|apply GO_block|apply GO_region|apply GOl_nil|(apply GOl_to;(iterate 3 exact rfl);apply OpTo_alloc (e:=24);exact rfl;intro bX)|(apply GOl_add;(iterate 3 exact rfl);omega;exact rfl;exact rfl)|(apply GOl_pv;(iterate 3 exact rfl))|(apply GOl_ov;exact rfl;exact rfl;(first|(apply OV_idxS (j:=k) (n:=R1.1.n);(iterate 5 exact rfl);exact a1;(with_reducible exact rfl);omega)|(apply OV_load;exact rfl;exact Lv_ro rfl c1 rfl));exact QA)|(apply GOl_to;(iterate 3 exact rfl);(first|(apply OpTo_store;(iterate 3 exact rfl);exact QR;(iterate 3 exact rfl);skip)))|(apply GO_drawp (n:=17) [0,1,2,3,4,5,6,7,8,9,10,11,12] [(0,0),(1,0),(2,0),(3,0),(4,0),(5,0),(6,0),(7,0),(8,0),(9,0),(10,1),(11,0),(12,0)];kernel_rfl)|(apply GP_un;exact rfl;kernel_rfl;exact rfl;exact rfl)|(apply GP_pv;exact rfl;kernel_rfl;(iterate 3 exact rfl))|(apply GP_loadB;exact rfl;kernel_rfl;(iterate 3 exact rfl);exact QM;exact rfl;exact rfl)|(apply GP_done;kernel_rfl;exact rfl)|(apply GP_split;(iterate 5 exact rfl);all_goals (intro hc;try simp only [hcS,reduceCtorEq] at hc;try (exfalso;omega)))|(apply GO_cond;exact rfl;all_goals (intro hc;try simp only [hcS,reduceCtorEq] at hc;try (exfalso;omega)))|(apply GP_un1;exact rfl;kernel_rfl;exact rfl;exact rfl))
        all_goals first
          | (exfalso;omega)
          | (refine GO_fit QS QT (h9))
      · have a0:=hqr.addrD (show 0 < qs.n by omega)
        have c0 : CellsAt h4 ((addrD qs.A).add (0 * ty40.size)) (resC (qd.ls.getD 0 res0)):=hqr.cellsD res0 (show 0 < qs.n by omega)
        have e0 : qd.ls.getD 0 res0 = qd.ls.headD res0:=by cases qd.ls <;> rfl
        rw [e0] at c0
        have hne : qd.ls ≠ []:=fun w => hz (by rw [w] at hql;exact hql.symm)
        have hmh:=head_mem hin1 hmd hne
        have hsc:=sameCup_c h4 (qd.ls.headD res0) x
        generalize qd.ls.headD res0 = y0 at *
        by_cases hS : SameCup y0 x
        · have h9:=ih2 fun _ => hS
          rw [decide_eq_true hS] at hsc
          clear ih2 hEno3 hEno4 hEy3
          repeat' (first|apply GO_seq|apply GO_skip|apply GO_inBlock|apply GO_block|apply GO_region|apply GOl_nil|(apply GOl_to;(iterate 3 exact rfl);apply OpTo_alloc (e:=24);exact rfl;intro bX)|(apply GOl_add;(iterate 3 exact rfl);omega;exact rfl;exact rfl)|(apply GOl_pv;(iterate 3 exact rfl))|(apply GOl_ov;exact rfl;exact rfl;(first|(apply OV_idxS (j:=k) (n:=R1.1.n);(iterate 5 exact rfl);exact a1;(with_reducible exact rfl);omega)|(apply OV_load;exact rfl;first|exact Lv_ro rfl c1 rfl|exact Lv_ro rfl c0 rfl));exact QA)|(apply GOl_to;(iterate 3 exact rfl);(first|(apply OpTo_store;(iterate 3 exact rfl);exact QR;(iterate 3 exact rfl);skip)))|(apply GO_drawp (n:=17) [0,1,2,3,4,5,6,7,8,9,10,11,12] [(0,0),(1,0),(2,0),(3,0),(4,0),(5,0),(6,0),(7,0),(8,0),(9,0),(10,1),(11,0),(12,0)];kernel_rfl)|(apply GP_pv;exact rfl;kernel_rfl;(iterate 3 exact rfl))|(apply GP_loadB;exact rfl;kernel_rfl;(iterate 3 exact rfl);exact QM;exact rfl;exact rfl)|(apply GP_ov;exact rfl;kernel_rfl;exact rfl;exact rfl;(first|(apply OV_idxS (j:=0) (n:=qs.n);(iterate 5 exact rfl);exact a0;omega;omega)|(apply OV_load;exact rfl;first|exact Lv_ro rfl c1 rfl|exact Lv_ro rfl c0 rfl));exact QA)|(apply GP_real;exact rfl;kernel_rfl;(iterate 3 exact rfl);(first|(apply OpTo_val;exact rfl;exact has32;exact hsc;refine ⟨Le.refl _,QN,?_⟩)))|(apply GP_done;kernel_rfl;exact rfl)|(apply GP_split;(iterate 5 exact rfl);all_goals (intro hc;try simp only [hcS,reduceCtorEq] at hc;try (exfalso;omega)))|(apply GO_cond;exact rfl;all_goals (intro hc;try simp only [hcS,reduceCtorEq] at hc;try (exfalso;omega))))
          all_goals first
            | (exfalso;omega)
            | (exfalso;simp at hc;done)
            | (refine GO_fit QS QT (h9))
        · have hE:=hEno3 fun k => hS (k y0 hmh)
          rw [decide_eq_false hS] at hsc
          rw [hE]
          dsimp only
          clear ih2 hEno3 hEno4 hEy3
          repeat' (first|apply GO_seq|apply GO_skip|apply GO_block|apply GO_region|apply GOl_nil|(apply GOl_to;(iterate 3 exact rfl);apply OpTo_alloc (e:=24);exact rfl;intro bX)|(apply GOl_pv;(iterate 3 exact rfl))|(apply GOl_load;exact rfl;exact Ld_blk rfl QM rfl;exact rfl;exact rfl)|(apply GOl_ov;exact rfl;exact rfl;(first|(apply OV_idxS (j:=k) (n:=R1.1.n);(iterate 5 exact rfl);exact a1;(with_reducible exact rfl);omega)|(apply OV_load;exact rfl;first|exact Lv_ro rfl c1 rfl|exact Lv_ro rfl c0 rfl));exact QA)|(apply GOl_to;(iterate 3 exact rfl);(first|(apply OpTo_store;(iterate 3 exact rfl);exact QR;(iterate 3 exact rfl);skip)))|(apply GO_drawp (n:=17) [0,1,2,3,4,5,6,7,8,9,10,11,12] [(0,0),(1,0),(2,0),(3,0),(4,0),(5,0),(6,0),(7,0),(8,0),(9,0),(10,1),(11,0),(12,0)];kernel_rfl)|(apply GP_pv;exact rfl;kernel_rfl;(iterate 3 exact rfl))|(apply GP_loadB;exact rfl;kernel_rfl;(iterate 3 exact rfl);exact QM;exact rfl;exact rfl)|(apply GP_ov;exact rfl;kernel_rfl;exact rfl;exact rfl;(first|(apply OV_idxS (j:=0) (n:=qs.n);(iterate 5 exact rfl);exact a0;omega;omega)|(apply OV_load;exact rfl;first|exact Lv_ro rfl c1 rfl|exact Lv_ro rfl c0 rfl));exact QA)|(apply GP_real;exact rfl;kernel_rfl;(iterate 3 exact rfl);(first|(apply OpTo_val;exact rfl;exact has32;exact hsc;refine ⟨Le.refl _,QN,?_⟩)))|(apply GP_done;kernel_rfl;exact rfl)|(apply GP_split;(iterate 5 exact rfl);all_goals (intro hc;try simp only [hcS,reduceCtorEq] at hc;try (exfalso;omega)))|(apply GO_cond;exact rfl;all_goals (intro hc;try simp only [hcS,reduceCtorEq] at hc;try (exfalso;omega))))
          all_goals first
            | (exfalso;omega)
            | (exfalso;simp at hc;done)
            | (exact GO_retRC2 rfl rfl rfl QM rfl rfl rfl (brOut_zero _ _))
    · rw [List.take_of_length_le (by omega)] at hK
      have h9:=ih1 hK
      clear ih1 ihk hEno3 hEno4 hEy3
      repeat' (first|apply GO_seq|apply GO_inBlock|apply GO_region|apply GOl_nil|(apply GO_exit;exact rfl)|(apply GOl_add;(iterate 3 exact rfl);omega;exact rfl;exact rfl)|(apply GOl_pv;(iterate 3 exact rfl))|(apply GO_cond;exact rfl;all_goals (intro hc;try simp only [hcS,reduceCtorEq] at hc;try (exfalso;omega))))
      all_goals first
        | (exfalso;omega)
        | (refine GO_fit QS QT (h9))
  rw [List.take_of_length_le (by omega)] at hJ
  have hcup:=heads_all hcu hJ
  have hEy4:=hEy3 hcup
  clear ih hEno3 hEy3 hJ hcu
  have hla:=hda.1
  dsimp only at hla
  have hdn : ps.n ≤ 2:=by have:=duelOk_len hQ.dok;omega
  have hcr:=fun h' (hl : Le h h') => Fn.form (cloneRe_c h' ps.A ps.n ps.c d.ls (hla.le hl) (by omega))
  repeat' (first|apply GO_seq|apply GO_region|apply GOl_nil|(apply GO_exit;exact rfl)|(apply GOl_pv;(iterate 3 exact rfl))|(apply GOl_load;exact rfl;exact Ld_blk rfl QM rfl;exact rfl;exact rfl)|(apply GO_drawp (n:=21) [0,1,2,3,4,5,6,7,8,9,10,11,12,13] [(0,0),(1,0),(2,0),(3,0),(4,0),(5,0),(6,0),(8,0),(7,2),(5,9),(9,1),(10,1),(11,0),(12,0),(13,1),(7,1),(10,1),(11,0),(12,0),(13,1)];kernel_rfl)|(apply GO_drawp (n:=22) [0,1,2,3,4,5,6,7,8] [(0,0),(1,0),(2,0),(3,0),(4,0),(5,0),(6,0),(7,1),(8,1)];kernel_rfl)|(apply GP_pv;exact rfl;kernel_rfl;(iterate 3 exact rfl))|(apply GP_loadB;exact rfl;kernel_rfl;(iterate 3 exact rfl);exact QM;exact rfl;exact rfl)|(apply GP_ov;exact rfl;kernel_rfl;exact rfl;exact rfl;(first|(apply OV_idxS (j:=i) (n:=R.1.n);(iterate 6 exact rfl);(with_reducible exact rfl);omega)|(apply OV_ldSf (enc:=encDu) (f:=2) (k:=i) (sz:=3) (b:=b7) (n:=R.1.n) (c:=c7) (xs:=R.2) (e:=24) (y:=(ps,d));exact rfl;exact rfl;exact addF _ _ _;exact encDu_len;exact hps;exact rfl)|(apply OV_ldS (off:=0) (enc:=encDu) (k:=i) (sz:=3) (b:=b7) (n:=R.1.n) (c:=c7) (xs:=R.2.set i (⟨A9,ps.n + 1,c9⟩,e)) (e:=24) (y:=(⟨A9,ps.n + 1,c9⟩,e));exact rfl;exact rfl;exact addZ _ _;exact encDu_len;(rw [List.getElem?_set_self (by omega)]);exact rfl));exact QA)|(apply GP_real;exact rfl;kernel_rfl;(iterate 3 exact rfl);(first|(apply OpTo_stSf (enc:=encDu) (f:=2) (k:=i) (sz:=3) (b:=b7) (xs:=R.2) (y0:=(ps,d)) (z:=(⟨A9,ps.n + 1,c9⟩,e));exact rfl;exact rfl;exact addF _ _ _;exact rfl;exact encDu_len;exact hps;(rw [hed];exact rfl);exact Nat.le_refl 3;exact QR;exact rfl;exact rfl;refine ⟨Le.refl _,QN,?_⟩)|(apply OpTo_store;(iterate 3 exact rfl);exact QR;(iterate 3 exact rfl);refine ⟨Le.refl _,QN,?_⟩)|(apply OpTo_alloc;exact rfl;intro b;refine ⟨Le.refl _,QN,?_⟩)|(apply OpTo_callP;exact rfl;exact has49;exact hcr _ (by first|exact Le.refl _|assumption|(repeat (first|assumption|(apply Le.trans;assumption))));exact QT;rintro v5 E5 h5 hle5 ⟨A5,c5,rfl,rfl⟩;refine ⟨hle5,QN,?_⟩)|(apply OpTo_buildSliceS (enc:=resC) (n:=1) [x];(iterate 3 exact rfl);exact List.cons_ne_nil _ _;(iterate 4 exact rfl);exact resC_len;exact rfl;exact rfl;intro b6 h6 hle6 hs6;refine ⟨hle6,QN,?_⟩)|(apply OpTo_appendS (enc:=resC) (xs:=d.ls) (ys:=[x]);(iterate 7 exact rfl);exact hs6.le (by first|exact Le.refl _|assumption|(repeat (first|assumption|(apply Le.trans;assumption))));exact resC_len;exact resC_one;intro v1;exact QR;omega;exact rfl;intro A9 c9;refine ⟨Le.refl _,QN,?_⟩)))|(apply GP_two;kernel_rfl;exact rfl;exact rfl)|(apply RealP_intro;(iterate 4 exact rfl);(first|(apply OpTo_callP;exact rfl;exact has49;exact hcr _ (by first|exact Le.refl _|assumption|(repeat (first|assumption|(apply Le.trans;assumption))));exact QT;rintro v5 E5 h5 hle5 ⟨A5,c5,rfl,rfl⟩;refine ⟨hle5,QN,?_⟩)|(apply OpTo_buildSliceS (enc:=resC) (n:=1) [x];(iterate 3 exact rfl);exact List.cons_ne_nil _ _;(iterate 4 exact rfl);exact resC_len;exact rfl;exact rfl;intro b6 h6 hle6 hs6;refine ⟨hle6,QN,?_⟩)))|(apply GP_done;kernel_rfl;exact rfl)|(apply GO_cond;exact rfl;all_goals (intro hc;try simp only [hcS,reduceCtorEq] at hc;try (exfalso;omega))))
  all_goals
    refine GOl_relC (enc:=resC) (e:=40) (sz:=13) (n:=ps.n + 1) (xs:=d.ls ++ [x]) resC_len (by rw [List.length_append,hdl];rfl) QK ?_
    intro A10 c10 h10 hle10 e10 hnc10 hs10
    cases e10
    have hl10 : Le h h10:=(by first|exact Le.refl _|assumption|(repeat (first|assumption|(apply Le.trans;assumption))))
    have hdg:=hQ.dug hX hdl hs10 hnc10
    have hfu:=fun h' => full_c h' ⟨A9,ps.n + 1,c9⟩ e t hdg.at'.len
    have hwn:=fun h' (hl : Le h10 h') => winner_c h' ⟨A9,ps.n + 1,c9⟩ e t (hdg.le hl)
    by_cases hbad : FullD e t ∧ winD e t = none
    · rw [hEno4 hbad]
      dsimp only
      simp only [decide_eq_true hbad.1] at hfu
      obtain ⟨w,hw⟩:=winV_none hbad.2
      rw [hw] at hwn
      clear hEno4 hEy4
      repeat' (first|apply GO_seq|apply GO_region|apply GOl_nil|(apply GOl_pv;(iterate 3 exact rfl))|(apply GOl_load;exact rfl;exact Ld_blk rfl QM rfl;exact rfl;exact rfl)|(apply GOl_to;(iterate 3 exact rfl);(first|(apply OpTo_store;(iterate 3 exact rfl);exact QR;(iterate 3 exact rfl);skip)|(apply OpTo_res;exact rfl;exact has26;exact hwn _ (by first|exact Le.refl _|assumption|(repeat (first|assumption|(apply Le.trans;assumption))));rintro v11 h11 hle11 rfl;skip)|(apply OpTo_val;exact rfl;exact has50;exact hfu _;skip)))|(apply GO_cond;exact rfl;all_goals (intro hc;try simp only [hcS,reduceCtorEq] at hc;try (exfalso;omega))))
      all_goals first
        | (exfalso;simp at hc;done)
        | (exact GO_retRC2 rfl rfl rfl QM rfl rfl rfl (brOut_zero _ _))
    · rw [hEy4 hbad]
      dsimp only
      obtain ⟨w,ok,hwv,hfo⟩:=winV_form e t hbad
      rw [hwv] at hwn
      generalize decide (FullD e t) = fu at *
      have hcrd:=fun h' (hl : Le h h') => Fn.form (cloneRd_c h' (sliceH s.A s.c 1) (s.n - 1) s.c (l.take (s.n - 1)) ((hrow.high (hi:=s.n - 1) (c:=s.c) (by omega) hnc).le hl) (by omega))
      clear hEno4 hEy4 hbad
      repeat' (first|apply GO_seq|apply GO_skip|apply GO_region|apply GOl_nil|(apply GOl_unwanted;exact rfl;exact rfl)|(apply GOl_pv;(iterate 3 exact rfl))|(apply GOl_load;exact rfl;exact Ld_blk rfl QM rfl;exact rfl;exact rfl)|(apply GOl_ov;exact rfl;exact rfl;(first|(apply OV_sliceHi (hi:=s.n - 1) (n:=s.n) (c:=s.c);(iterate 5 exact rfl);omega;omega;exact hnc));exact QA)|(apply GOl_to;(iterate 3 exact rfl);(first|(apply OpTo_store;(iterate 3 exact rfl);exact QR;(iterate 3 exact rfl);skip)|(apply OpTo_res;exact rfl;exact has26;exact hwn _ (by first|exact Le.refl _|assumption|(repeat (first|assumption|(apply Le.trans;assumption))));rintro v11 h11 hle11 rfl;skip)|(apply OpTo_val;exact rfl;exact has50;exact hfu _;skip)|(apply OpTo_callP;exact rfl;exact has51;exact hcrd _ (by first|exact Le.refl _|assumption|(repeat (first|assumption|(apply Le.trans;assumption))));exact QT;rintro v12 E12 h12 hle12 ⟨A12,c12,rfl,rfl⟩;skip)|(apply OpTo_buildSliceS (enc:=encRd) (n:=1) [(((⟨some ⟨b7,0,none⟩,R.1.n,c7⟩ : Sli),R.2.set i (⟨A9,ps.n + 1,c9⟩,e)) : RdS)];(iterate 3 exact rfl);exact List.cons_ne_nil _ _;(iterate 4 exact rfl);exact encRd_len;exact rfl;exact rfl;intro b13 h13 hle13 hs13;skip)|(apply OpTo_appendS (enc:=encRd) (xs:=l.take (s.n - 1));(iterate 7 exact rfl);exact hs13.le (by first|exact Le.refl _|assumption|(repeat (first|assumption|(apply Le.trans;assumption))));exact encRd_len;exact encRd_one;intro v1;exact QR;omega;exact rfl;intro A14 c14;skip)))|(apply GO_cond;exact rfl;all_goals (intro hc;try simp only [hcS,reduceCtorEq] at hc;try (exfalso;omega)))|(apply GOl_split;exact rfl;exact rfl;all_goals (intro hc;try simp only [hcS,reduceCtorEq] at hc;try (exfalso;omega))))
      all_goals (try (exfalso;exact absurd (hfo (by assumption)) (by rw [show ok = false by assumption];decide)))
      all_goals
        refine GOl_relC (enc:=encDu) (e:=24) (sz:=3) (n:=R.1.n) (xs:=R.2.set i (⟨A9,ps.n + 1,c9⟩,e)) encDu_len (by rw [List.length_set];exact hRl) QK ?_
        intro A15 c15 h15 hle15 e15 hnc15 hs15
        cases e15
        have hl15 : Le h h15:=(by first|exact Le.refl _|assumption|(repeat (first|assumption|(apply Le.trans;assumption))))
        have hl1015 : Le h10 h15:=(by first|exact Le.refl _|assumption|(repeat (first|assumption|(apply Le.trans;assumption))))
        have hr':=hQ.round (hRa.le hl15) (hdg.at'.le hl1015) hs15 hnc15
        have hdm : duels (R.2.set i (⟨A9,ps.n + 1,c9⟩,e)) = m:=by rw [duels_set,hms]
        have hfol:=follow_c h15 (some ⟨b7,0,none⟩) R.1.n c7 (R.2.set i (⟨A9,ps.n + 1,c9⟩,e)) t hr'.1 hRn (fun p hp => by
          rcases List.mem_or_eq_of_mem_set hp with w9|w9
          · exact DuG.of ((hRa.1.each p w9).le hl15) (hRok p.2 (List.mem_map.2 ⟨p,w9,rfl⟩)).1
          · rw [w9];exact hdg.le hl1015)
        rw [hdm] at hfol
        have hll : (l.take (s.n - 1)).length = s.n - 1:=by rw [List.length_take];omega
        have heach : ∀ h',Le h15 h' → ∀ r ∈ l,RdAt h' r:=fun h' hl r hr => (hb.each r hr).le (hl15.trans hl)
        have hdS:=hdm
        generalize R.2.set i (⟨A9,ps.n + 1,c9⟩,e) = S at *
        clear hfu hwn hdg hcrd hQ hRok hms hdm hs15 hcr hs6 hs10
        cases hnx : nextR m t with
        | none =>
          rw [hnx] at hfol
          rw [show (none : Option (List FDuel)).isSome = false from rfl] at hfol
          repeat' (first|apply GO_seq|apply GO_skip|apply GO_region|apply GOl_nil|(apply GOl_pv;(iterate 3 exact rfl))|(apply GOl_load;exact rfl;exact Ld_blk rfl QM rfl;exact rfl;exact rfl)|(apply GOl_to;(iterate 3 exact rfl);(first|(apply OpTo_store;(iterate 3 exact rfl);exact QR;(iterate 3 exact rfl);skip)|(apply OpTo_res;exact rfl;exact has52;exact hfol;rintro v16 h16 hle16 ⟨r2,rfl,hr2,hrd2⟩;skip)))|(apply GO_cond;exact rfl;all_goals (intro hc;try simp only [hcS,reduceCtorEq] at hc;try (exfalso;omega))))
          all_goals (try (exfalso;simp at hc;done))
          refine GO_relC (enc:=encRd) (e:=53) (sz:=1) (n:=s.n - 1 + 1) (xs:=l.take (s.n - 1) ++ [(((⟨some ⟨b7,0,none⟩,R.1.n,c7⟩ : Sli),S) : RdS)]) encRd_len (by rw [List.length_append,hll];rfl) QK ?_
          intro A17 c17 h17 hle17 e17 hnc17 hs17
          cases e17
          exact GO_retRC2 rfl rfl rfl QM rfl rfl rfl (entOut (heach _ (by first|exact Le.refl _|assumption|(repeat (first|assumption|(apply Le.trans;assumption))))) (fun r hr => by rw [List.mem_singleton.1 hr];exact hr'.le (by first|exact Le.refl _|assumption|(repeat (first|assumption|(apply Le.trans;assumption))))) hs17 hnc17 (by show [duels S] = m :: [] ;rw [hdS]))
        | some nx =>
          rw [hnx] at hfol
          rw [show (some nx).isSome = true from rfl] at hfol
          repeat' (first|apply GO_seq|apply GO_region|apply GOl_nil|(apply GOl_pv;(iterate 3 exact rfl))|(apply GOl_load;exact rfl;exact Ld_blk rfl QM rfl;exact rfl;exact rfl)|(apply GOl_to;(iterate 3 exact rfl);(first|(apply OpTo_store;(iterate 3 exact rfl);exact QR;(iterate 3 exact rfl);skip)|(apply OpTo_res;exact rfl;exact has52;exact hfol;rintro v16 h16 hle16 ⟨r2,rfl,hr2,hrd2⟩;skip)|(apply OpTo_buildSliceS (enc:=encRd) (n:=1) [r2];(iterate 3 exact rfl);exact List.cons_ne_nil _ _;(iterate 4 exact rfl);exact encRd_len;exact rfl;exact rfl;intro b18 h18 hle18 hs18;skip)|(apply OpTo_appendS (enc:=encRd) (xs:=l.take (s.n - 1) ++ [(((⟨some ⟨b7,0,none⟩,R.1.n,c7⟩ : Sli),S) : RdS)]);(iterate 7 exact rfl);exact hs18.le (by first|exact Le.refl _|assumption|(repeat (first|assumption|(apply Le.trans;assumption))));exact encRd_len;exact encRd_one;intro v1;exact QR;omega;exact rfl;intro A19 c19;skip)))|(apply GO_cond;exact rfl;all_goals (intro hc;try simp only [hcS,reduceCtorEq] at hc;try (exfalso;omega))))
          all_goals (try (exfalso;simp at hc;done))
          refine GO_relC (enc:=encRd) (e:=53) (sz:=1) (n:=s.n - 1 + 1 + 1) (xs:=l.take (s.n - 1) ++ [(((⟨some ⟨b7,0,none⟩,R.1.n,c7⟩ : Sli),S) : RdS)] ++ [r2]) encRd_len (by rw [List.length_append,List.length_append,hll];rfl) QK ?_
          intro A17 c17 h17 hle17 e17 hnc17 hs17
          cases e17
          rw [List.append_assoc] at hs17
          exact GO_retRC2 rfl rfl rfl QM rfl rfl rfl (entOut (heach _ (by first|exact Le.refl _|assumption|(repeat (first|assumption|(apply Le.trans;assumption))))) (fun r hr => by
            rcases List.mem_append.1 hr with w9|w9
            · rw [List.mem_singleton.1 w9];exact hr'.le (by first|exact Le.refl _|assumption|(repeat (first|assumption|(apply Le.trans;assumption))))
            · rw [List.mem_singleton.1 w9];exact hr2.le (by first|exact Le.refl _|assumption|(repeat (first|assumption|(apply Le.trans;assumption))))) hs17 hnc17 (by show [duels S,duels r2.2] = m :: [nx];rw [hdS,hrd2 nx rfl]))
end Go.Hw
set_option linter.unusedVariables false
set_option linter.unusedSimpArgs false
set_option maxRecDepth 100000
set_option maxHeartbeats 8000000
namespace Go.Hw
open Go
attribute [local irreducible] GO GOl GDp Val Fn Res CellsAt ValE Blk OwnS MapA OwnPf Has Yl
open Go.Proofs (Tryz.prog)
theorem won21_c (h : Ro) (a b x y : Int) : Val Tryz.prog 24 #[.int .i64 a,.int .i64 b,.int .i64 x,.int .i64 y] h (resV (wonR a b x y 0 0)):=by
  refine Val_intro (args:=[_,_,_,_]) ts_ok Go.Proofs.Tryz.func24 rfl rfl fun w0 X0 => ?_
  repeat' (first|apply GO_seq|apply GO_region|apply GOl_nil|(apply GOl_pv;(iterate 3 exact rfl))|(apply GOl_to;(iterate 3 exact rfl);(first|(apply OpTo_store;(iterate 3 exact rfl);exact QR;(iterate 3 exact rfl);skip)|(apply OpTo_alloc;exact rfl;intro b;skip)))|(apply GO_retC1;(iterate 3 exact rfl);exact QM;exact rfl;exact rfl))
  all_goals rfl
theorem winnerOwn (h : Ro) (bq : Nat) (d : FDuel) (t : FTie) (n : Nat) (hn : d.ls.length = n) (u : Int × Int) (hu : winnerE d t = u) :
    ValE Tryz.prog 9 #[duelV ⟨some ⟨bq,0,none⟩,n,n⟩ d,tieV t] [OwnS 40 13 (.slice (some ⟨bq,0,none⟩) n n) n (d.ls.flatMap resC)] h (.tuple #[.int .i64 u.1,.int .i64 u.2]) :=
  ValE_lend fun h1 Ds hl ho => by
    obtain ⟨A,c,e1,e2,hs⟩:=Own_row resC_len hn ho
    cases e1
    have:=winnerDu_c h1 ⟨some ⟨bq,0,none⟩,n,n⟩ d t ⟨hs,Nat.le_refl _⟩
    rw [hu] at this
    exact Val_of_res this
theorem du0_at (h : Ro) (a b : Int) : DuAt h (sli0,⟨a,b,[]⟩):=⟨SlOf.nil,Nat.le_refl _⟩
theorem brSm_nil : BrSm sli0 []:=⟨Nat.zero_le _,fun r hr => (by cases hr),fun r hr => (by cases hr)⟩
theorem brSm_ok {h : Ro} {s : Sli} {l : List RdS} {b : FBr} (hb : BrAt h s l b) (ho : BrOk b) : BrSm s l:=by
  have hrl : (rounds l).length = s.n:=by rw [rounds_len,hb.rs.row.len]
  have his:=hb.is
  have hch:=ho.chain
  have hrn:=ho.rnd
  have hro:=ho.rounds
  rw [his] at hch hrn hro
  have hin : ∀ r ∈ l,duels r.2 ∈ rounds l:=fun r hr => List.mem_map.2 ⟨r,hr,rfl⟩
  refine ⟨?_,fun r hr => ?_,fun r hr p hp => ?_⟩
  · rw [← hrl]
    by_cases h7 : 7 < (rounds l).length
    · have h1:=chain_len hch hrn 7 h7
      have hm : (rounds l).getD 7 [] ∈ rounds l:=mem7 [] h7
      have h2:=(hrn _ hm).pow
      cases e : rounds l with
      | nil => rw [e] at h7;simp at h7
      | cons a r =>
        have h3:=(hrn a (by rw [e];simp)).pow
        rw [e] at h1 h2
        simp only [List.headD_cons] at h1
        unfold IsPow1 at h2 h3
        omega
    · omega
  · have h3:=(hrn _ (hin r hr)).pow
    rw [duels_len,(hb.rs.each r hr).1.row.len] at h3
    unfold IsPow1 at h3
    omega
  · have h3:=duelOk_len (hro _ (hin r hr) p.2 (List.mem_map.2 ⟨p,hp,rfl⟩)).1
    have h4:=((hb.rs.each r hr).1.each p hp).len
    omega
theorem sane21_c (h : Ro) : Val Tryz.prog 8 #[] h (.bool true):=by
  refine Val_intro (args:=[]) ts_ok Go.Proofs.Tryz.func8 rfl rfl fun w0 X0 => ?_
  have w1:=fun h' bq => winnerOwn h' bq (exD 0 0) tie2 2 rfl _ ex_draw
  have w2:=fun h' bq => winnerOwn h' bq (exD 4 3) tie2 2 rfl _ ex_pens
  have w3 : ∀ h',Res Tryz.prog 9 #[duelV sli0 ⟨1,2,[]⟩,tieV tie1] h' (fun u _ => u = .tuple #[.int .i64 0,.int .i64 210]):=fun h' => by
    have:=winnerDu_c h' sli0 ⟨1,2,[]⟩ tie1 (du0_at h' 1 2)
    rw [ex_openD] at this;exact this
  have n1 : ∀ h' b,SlOf encI 1 h' (some ⟨b,0,none⟩) 3 [1,2,3] → Res Tryz.prog 14 #[.slice (some ⟨b,0,none⟩) 3 3,tieV tie1] h' (fun u h2 => BrOut h2 u br0 190):=fun h' b hs => by
    have:=new_c h' (some ⟨b,0,none⟩) 3 3 [1,2,3] tie1 hs (Nat.le_refl _)
    rw [ex_three] at this;exact this
  have n2 : ∀ h' b,SlOf encI 1 h' (some ⟨b,0,none⟩) 2 [1,2] → Res Tryz.prog 14 #[.slice (some ⟨b,0,none⟩) 2 2,tieV ⟨3,false⟩] h' (fun u h2 => BrOut h2 u br0 210):=fun h' b hs => by
    have:=new_c h' (some ⟨b,0,none⟩) 2 2 [1,2] ⟨3,false⟩ hs (Nat.le_refl _)
    rw [ex_rules] at this;exact this
  have n3 : ∀ h' b,SlOf encI 1 h' (some ⟨b,0,none⟩) 2 [5,3] → Res Tryz.prog 14 #[.slice (some ⟨b,0,none⟩) 2 2,tieV tie1] h' (fun u h2 => BrOut h2 u exB 0):=fun h' b hs => by
    have:=new_c h' (some ⟨b,0,none⟩) 2 2 [5,3] tie1 hs (Nat.le_refl _)
    rw [ex_new] at this;exact this
  have c1 : ∀ h',Res Tryz.prog 18 #[brV sli0 tie0] h' (fun u _ => u = .tuple #[.int .i64 0,.bool false,.int .i64 210]):=fun h' => by
    have:=champ_c h' sli0 [] tie0 (BrAt.zero h').rs brSm_nil
    rw [show (⟨tie0,rounds []⟩ : FBr) = br0 from rfl,ex_empty] at this;exact this
  have hbo : BrOk exB:=(enterB_some (b:=exB) (x:=wonR 5 3 0 1 0 0) (by rw [ex_enter])).1
  have e1 : ∀ h' s l,BrAt h' s l exB → Res Tryz.prog 16 #[brV s tie1,resV (wonR 5 3 0 1 0 0)] h' (fun u h2 => BrOut h2 u exY 0):=fun h' s l hb => by
    have:=enterBr_c h' s l tie1 hb.rs hb.nc (brSm_ok hb hbo) (wonR 5 3 0 1 0 0)
    rw [show (⟨tie1,rounds l⟩ : FBr) = exB by rw [← hb.is];rfl,ex_enter] at this;exact this
  have hyo : BrOk exY:=by have:=(enter_played (b:=exB) (x:=wonR 5 3 0 1 0 0) (by rw [ex_enter])).2.ok;rw [ex_enter] at this;exact this
  have c2 : ∀ h' s l,BrAt h' s l exY → Res Tryz.prog 18 #[brV s tie1] h' (fun u _ => u = .tuple #[.int .i64 3,.bool true,.int .i64 0]):=fun h' s l hb => by
    have:=champ_c h' s l tie1 hb.rs (brSm_ok hb hyo)
    rw [show (⟨tie1,rounds l⟩ : FBr) = exY by rw [← hb.is];rfl,ex_champ] at this;exact this
  have v1:=fun h' => view0_c h' 0 8 tie1 (.inl rfl)
  repeat' (first|apply GO_seq|apply GO_region|apply GOl_nil|(apply GOl_to;(iterate 3 exact rfl);apply OpTo_alloc (e:=26);exact rfl;intro bt)|(apply GOl_pv;(iterate 3 exact rfl))|(apply GOl_load;exact rfl;exact Ld_blk rfl QM rfl;exact rfl;exact rfl)|(apply GOl_to;(iterate 3 exact rfl);(first|(apply OpTo_store;(iterate 3 exact rfl);exact QR;(iterate 3 exact rfl);skip)|(apply OpTo_alloc;exact rfl;intro b;skip)|(apply OpTo_val;exact rfl;exact has24;exact won21_c _ _ _ _ _;skip)|(apply OpTo_buildSliceO (n:=2) (cs:=(exD 0 0).ls.flatMap resC);(iterate 3 exact rfl);exact List.cons_ne_nil _ _;(iterate 6 exact rfl);intro bq;skip)|(apply OpTo_valT;exact rfl;exact has9;exact w1 _ bq;apply Takes_cons;(first|exact Take.here|exact Take.there Take.here|exact Take.there (Take.there Take.here));exact Takes_nil;skip)|(apply OpTo_valT;exact rfl;exact has9;exact w2 _ bq;apply Takes_cons;(first|exact Take.here|exact Take.there Take.here|exact Take.there (Take.there Take.here));exact Takes_nil;skip)|(apply OpTo_buildSliceS (enc:=encI) (n:=3) [1,2,3];(iterate 3 exact rfl);exact List.cons_ne_nil _ _;(iterate 4 exact rfl);exact (fun _ => rfl);exact rfl;exact rfl;intro c3 h3 hle3 hs3;skip)|(apply OpTo_res;exact rfl;exact has14;exact n1 _ _ hs3;rintro v4 h4 hle4 ⟨s4,l4,rfl,hb4⟩;skip)|(apply OpTo_buildSliceS (enc:=encI) (n:=2) [1,2];(iterate 3 exact rfl);exact List.cons_ne_nil _ _;(iterate 4 exact rfl);exact (fun _ => rfl);exact rfl;exact rfl;intro c5 h5 hle5 hs5;skip)|(apply OpTo_res;exact rfl;exact has14;exact n2 _ _ hs5;rintro v6 h6 hle6 ⟨s6,l6,rfl,hb6⟩;skip)|(apply OpTo_res;exact rfl;exact has9;exact w3 _;rintro v7 h7 hle7 rfl;skip)|(apply OpTo_res;exact rfl;exact has18;exact c1 _;rintro v8 h8 hle8 rfl;skip)|(apply OpTo_val;exact rfl;exact has25;exact v1 _;skip)|(apply OpTo_buildSliceS (enc:=encI) (n:=2) [5,3];(iterate 3 exact rfl);exact List.cons_ne_nil _ _;(iterate 4 exact rfl);exact (fun _ => rfl);exact rfl;exact rfl;intro c9 h9 hle9 hs9;skip)|(apply OpTo_res;exact rfl;exact has14;exact n3 _ _ hs9;rintro v10 h10 hle10 ⟨s10,l10,rfl,hb10⟩;skip)|(apply OpTo_res;exact rfl;exact has18;exact c2 _ _ _ hb11;rintro v12 h12 hle12 rfl;skip)))|(apply GO_drawp (n:=4) [0,1,4,5,6,2,3,7,8,9] [(0,0),(1,0),(2,0),(3,0),(4,0),(5,0),(6,1),(7,0),(8,0),(9,1)];kernel_rfl)|(apply GO_drawp (n:=12) [0,1,2,3,4,6,5,7] [(0,0),(1,1),(2,1),(3,0),(4,0),(5,0),(6,1),(7,0)];kernel_rfl)|(apply GP_pv;exact rfl;kernel_rfl;(iterate 3 exact rfl))|(apply GP_loadB;exact rfl;kernel_rfl;(iterate 3 exact rfl);exact QM;exact rfl;exact rfl)|(apply GP_ov;exact rfl;kernel_rfl;exact rfl;exact rfl;(first|(apply OV_idxS (j:=1);(iterate 6 exact rfl);omega;omega));exact QA)|(apply GP_real;exact rfl;kernel_rfl;(iterate 3 exact rfl);(first|(apply OpTo_stSf (enc:=resC) (f:=6) (k:=1) (sz:=13) (b:=bq) (xs:=(exD 0 0).ls) (y0:=wonR 2 1 1 2 0 0) (z:=wonR 2 1 1 2 4 0);(iterate 4 exact rfl);exact resC_len;exact rfl;exact rfl;exact Nat.le_of_ble_eq_true rfl;exact QR;exact rfl;exact rfl;refine ⟨Le.refl _,QN,?_⟩)|(apply OpTo_stSf (enc:=resC) (f:=7) (k:=1) (sz:=13) (b:=bq) (xs:=[wonR 1 2 1 2 0 0,wonR 2 1 1 2 4 0]) (y0:=wonR 2 1 1 2 4 0) (z:=wonR 2 1 1 2 4 3);(iterate 4 exact rfl);exact resC_len;exact rfl;exact rfl;exact Nat.le_of_ble_eq_true rfl;exact QR;exact rfl;exact rfl;refine ⟨Le.refl _,QN,?_⟩)|(apply OpTo_store;(iterate 3 exact rfl);exact QR;(iterate 3 exact rfl);refine ⟨Le.refl _,QN,?_⟩)|(apply OpTo_val;exact rfl;exact has24;exact won21_c _ _ _ _ _;refine ⟨Le.refl _,QN,?_⟩)|(apply OpTo_res;exact rfl;exact has16;exact e1 _ _ _ hb10;rintro v11 h11 hle11 ⟨s11,l11,rfl,hb11⟩;refine ⟨hle11,QN,?_⟩)))|(apply GP_done;kernel_rfl;exact rfl)|(apply GOl_split;exact rfl;exact rfl;all_goals (intro hc;try simp only [hcS,reduceCtorEq] at hc;try (exfalso;omega))))
  all_goals first
    | (exact GO_retV1 rfl rfl rfl (congrArg Value.bool ((eqI_t 3 3).mpr rfl)))
    | (exact GO_retV1 rfl rfl rfl (congrArg Value.bool ((eqI_t 3 3).mpr rfl)).symm)
end Go.Hw

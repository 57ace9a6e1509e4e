import Derived.Test.YtphlhpbmkejbaaaGreatDoorBF
import Derived.Test.YtphlhpbmkejbaaaGreatDoorBC
import Derived.Test.YtphlhpbmkejbaaaGreatDoorBD
set_option linter.unusedVariables false
set_option linter.unusedSimpArgs false
set_option maxRecDepth 100000
set_option maxHeartbeats 8000000
namespace Go.Hw
open Go
attribute [local irreducible] GO GOl GDp Val Fn Res CellsAt ValE Blk OwnS MapA OwnPf Has Yl
open Go.Proofs (Tryz.prog)
open Classical in
theorem champ21_c (h : Ro) (s : Sli) (l : List RdS) (t : FTie) (hb : RdsAt h s.A s.n l) (hs : BrSm s l) : Res Tryz.prog 19 #[brV s t] h (fun u _ => u = .tuple #[.int .i64 (champB ⟨t,rounds l⟩).1,.bool (champB ⟨t,rounds l⟩).2.1,.int .i64 (champB ⟨t,rounds l⟩).2.2]):=by
  refine Res_intro (args:=[_]) ts_ok Go.Proofs.Tryz.func19 rfl rfl fun w0 X0 => ?_
  have hck:=fun h' (hl : Le h h') => valid21_c h' s l t (hb.le hl) hs
  by_cases hB : BrOk ⟨t,rounds l⟩
  case' neg =>
    simp only [decide_eq_false hB] at hck
    rw [champB_bad hB]
    dsimp only
    repeat' (first|apply GO_seq|apply GO_region|apply GOl_nil|(apply GOl_to;(iterate 3 exact rfl);apply OpTo_box (e:=36);exact rfl;intro b1)|(apply GOl_pv;(iterate 3 exact rfl))|(apply GOl_load;exact rfl;exact Ld_blk rfl QM rfl;exact rfl;exact rfl)|(apply GOl_to;(iterate 3 exact rfl);(first|(apply OpTo_res;exact rfl;exact has53;exact hck _ (by first|exact Le.refl _|assumption|(repeat (first|assumption|(apply Le.trans;assumption))));rintro v2 h2 hle2 rfl;skip)))|(apply GO_cond;exact rfl;all_goals (intro hc;try simp only [hcS,reduceCtorEq] at hc;try (exfalso;omega))))
    all_goals first
      | (exfalso;simp at hc;done)
      | (exact GO_retR3 rfl rfl rfl rfl rfl rfl)
  simp only [decide_eq_true hB] at hck
  have hlen:=hb.row.len
  have hrow:=hb.row
  have hrl : (rounds l).length = s.n:=by rw [rounds_len,hlen]
  have h0 : 0 < s.n:=by
    rcases Nat.eq_zero_or_pos s.n with e|e
    · exact absurd (List.eq_nil_of_length_eq_zero (show (rounds l).length = 0 by omega)) hB.some
    · exact e
  have hlast:=take_lastB hrl h0
  have hnn:=hs.few
  have ra:=hrow.addrD (show s.n - 1 < s.n by omega)
  have rc : CellsAt h ((addrD s.A).add ((s.n - 1) * ty53.size)) (encRd (l.getD (s.n - 1) rd0)):=hrow.cellsD rd0 (show s.n - 1 < s.n by omega)
  have hRm:=mem7 rd0 (show s.n - 1 < l.length by omega)
  rw [rounds_getD] at hlast
  have hRa:=hb.each _ hRm
  have hRin:=last_in hB
  dsimp only at hRin
  rw [hlast] at hRin
  have hRok:=hB.rounds _ hRin
  dsimp only at hRok
  have hmany:=champB_many hB
  have hone:=fun d => champB_one hB (d:=d)
  dsimp only at hmany hone
  rw [hlast] at hmany hone
  generalize l.getD (s.n - 1) rd0 = R at *
  have hRl:=hRa.1.row.len
  generalize champB ⟨t,rounds l⟩ = E at *
  by_cases h1 : R.1.n = 1
  case' neg =>
    rw [hmany (by rw [duels_len];omega)]
    dsimp only
    clear hmany hone hRok
    repeat' (first|apply GO_seq|apply GO_skip|apply GO_region|apply GOl_nil|(apply GOl_to;(iterate 3 exact rfl);apply OpTo_box (e:=36);exact rfl;intro b1)|(apply GOl_sub;(iterate 3 exact rfl);omega;exact rfl;exact rfl)|(apply GOl_pv;(iterate 3 exact rfl))|(apply GOl_load;exact rfl;exact Ld_blk rfl QM rfl;exact rfl;exact rfl)|(apply GOl_ov;exact rfl;exact rfl;(first|(apply OV_idxS (j:=s.n - 1) (n:=s.n);(iterate 5 exact rfl);exact ra;omega;omega)|(apply OV_load;exact rfl;exact Lv_ro rfl (rc.le (by first|exact Le.refl _|assumption|(repeat (first|assumption|(apply Le.trans;assumption))))) rfl));exact QA)|(apply GOl_to;(iterate 3 exact rfl);(first|(apply OpTo_res;exact rfl;exact has53;exact hck _ (by first|exact Le.refl _|assumption|(repeat (first|assumption|(apply Le.trans;assumption))));rintro v2 h2 hle2 rfl;skip)))|(apply GO_cond;exact rfl;all_goals (intro hc;try simp only [hcS,reduceCtorEq] at hc;try (exfalso;omega))))
    all_goals first
      | (exfalso;simp at hc;done)
      | (exfalso;omega)
      | (exact GO_retR3 rfl rfl rfl rfl rfl rfl)
  have a0:=hRa.1.row.addrD (show 0 < R.1.n by omega)
  have c0 : CellsAt h ((addrD R.1.A).add (0 * ty24.size)) (encDu (R.2.getD 0 du0)):=hRa.1.row.cellsD du0 (show 0 < R.1.n by omega)
  have hm0:=mem7 du0 (show 0 < R.2.length by omega)
  have hd0:=hRa.1.each _ hm0
  have hl1 : duels R.2 = [(R.2.getD 0 du0).2]:=by
    match hR2 : R.2,hRl with
    | [p],_ => rfl
    | [],k => simp at k;omega
    | p :: q :: r,k => simp at k;omega
  generalize R.2.getD 0 du0 = p at *
  obtain ⟨ps,pd⟩:=p
  dsimp only at hl1
  have hE:=hone pd hl1
  have hdok:=(hRok pd (by rw [hl1];simp)).1
  have hwn : ∀ h',Le h h' → Res Tryz.prog 27 #[duelV ps pd,tieV t] h' (fun u _ => u = winV pd t):=fun h' hl => (decided_c h' ps pd t ((DuG.of hd0 hdok).le hl).at' (by have:=(DuG.of hd0 hdok).few;omega)).mono fun u h2 _ ⟨c,b,e,k⟩ => k ((DuG.of hd0 hdok).le hl)
  clear hmany hone hRok
  cases hwd : winD pd t with
  | none =>
    rw [hwd] at hE
    dsimp only at hE
    obtain ⟨q,hq⟩:=winV_none hwd
    rw [hq] at hwn
    rw [hE]
    dsimp only
    repeat' (first|apply GO_seq|apply GO_skip|apply GO_region|apply GOl_nil|(apply GOl_to;(iterate 3 exact rfl);apply OpTo_box (e:=36);exact rfl;intro b1)|(apply GOl_sub;(iterate 3 exact rfl);omega;exact rfl;exact rfl)|(apply GOl_pv;(iterate 3 exact rfl))|(apply GOl_load;exact rfl;exact Ld_blk rfl QM rfl;exact rfl;exact rfl)|(apply GOl_ov;exact rfl;exact rfl;(first|(apply OV_idxS (j:=s.n - 1) (n:=s.n);(iterate 5 exact rfl);exact ra;omega;omega)|(apply OV_load;exact rfl;first|exact Lv_ro rfl (rc.le (by first|exact Le.refl _|assumption|(repeat (first|assumption|(apply Le.trans;assumption))))) rfl|exact Lv_ro rfl (c0.le (by first|exact Le.refl _|assumption|(repeat (first|assumption|(apply Le.trans;assumption))))) rfl));exact QA)|(apply GOl_to;(iterate 3 exact rfl);(first|(apply OpTo_res;exact rfl;exact has53;exact hck _ (by first|exact Le.refl _|assumption|(repeat (first|assumption|(apply Le.trans;assumption))));rintro v2 h2 hle2 rfl;skip)))|(apply GO_drawp (n:=6) [0,1,2,3,4,5,6,7,9,8,10] [(0,0),(1,0),(2,0),(3,0),(4,0),(5,1),(6,0),(7,0),(8,0),(9,0),(10,0)];kernel_rfl)|(apply GP_pv;exact rfl;kernel_rfl;(iterate 3 exact rfl))|(apply GP_loadB;exact rfl;kernel_rfl;(iterate 3 exact rfl);exact QM;exact rfl;exact rfl)|(apply GP_ov;exact rfl;kernel_rfl;exact rfl;exact rfl;(first|(apply OV_idxS (j:=0) (n:=R.1.n);(iterate 5 exact rfl);exact a0;omega;omega)|(apply OV_load;exact rfl;first|exact Lv_ro rfl (rc.le (by first|exact Le.refl _|assumption|(repeat (first|assumption|(apply Le.trans;assumption))))) rfl|exact Lv_ro rfl (c0.le (by first|exact Le.refl _|assumption|(repeat (first|assumption|(apply Le.trans;assumption))))) rfl));exact QA)|(apply GP_real;exact rfl;kernel_rfl;(iterate 3 exact rfl);(first|(apply OpTo_res;exact rfl;exact has27;exact hwn _ (by first|exact Le.refl _|assumption|(repeat (first|assumption|(apply Le.trans;assumption))));rintro v3 h3 hle3 rfl;refine ⟨hle3,QN,?_⟩)))|(apply GP_done;kernel_rfl;exact rfl)|(apply GO_cond;exact rfl;all_goals (intro hc;try simp only [hcS,reduceCtorEq] at hc;try (exfalso;omega))))
    all_goals first
      | (exfalso;simp at hc;done)
      | (exfalso;omega)
      | (exact GO_retR3 rfl rfl rfl rfl rfl rfl)
  | some w =>
    rw [hwd] at hE
    dsimp only at hE
    rw [winV_some hwd] at hwn
    rw [hE]
    dsimp only
    repeat' (first|apply GO_seq|apply GO_skip|apply GO_region|apply GOl_nil|(apply GOl_to;(iterate 3 exact rfl);apply OpTo_box (e:=36);exact rfl;intro b1)|(apply GOl_sub;(iterate 3 exact rfl);omega;exact rfl;exact rfl)|(apply GOl_pv;(iterate 3 exact rfl))|(apply GOl_load;exact rfl;exact Ld_blk rfl QM rfl;exact rfl;exact rfl)|(apply GOl_ov;exact rfl;exact rfl;(first|(apply OV_idxS (j:=s.n - 1) (n:=s.n);(iterate 5 exact rfl);exact ra;omega;omega)|(apply OV_load;exact rfl;first|exact Lv_ro rfl (rc.le (by first|exact Le.refl _|assumption|(repeat (first|assumption|(apply Le.trans;assumption))))) rfl|exact Lv_ro rfl (c0.le (by first|exact Le.refl _|assumption|(repeat (first|assumption|(apply Le.trans;assumption))))) rfl));exact QA)|(apply GOl_to;(iterate 3 exact rfl);(first|(apply OpTo_res;exact rfl;exact has53;exact hck _ (by first|exact Le.refl _|assumption|(repeat (first|assumption|(apply Le.trans;assumption))));rintro v2 h2 hle2 rfl;skip)))|(apply GO_drawp (n:=6) [0,1,2,3,4,5,6,7,9,8,10] [(0,0),(1,0),(2,0),(3,0),(4,0),(5,1),(6,0),(7,0),(8,0),(9,0),(10,0)];kernel_rfl)|(apply GP_pv;exact rfl;kernel_rfl;(iterate 3 exact rfl))|(apply GP_loadB;exact rfl;kernel_rfl;(iterate 3 exact rfl);exact QM;exact rfl;exact rfl)|(apply GP_ov;exact rfl;kernel_rfl;exact rfl;exact rfl;(first|(apply OV_idxS (j:=0) (n:=R.1.n);(iterate 5 exact rfl);exact a0;omega;omega)|(apply OV_load;exact rfl;first|exact Lv_ro rfl (rc.le (by first|exact Le.refl _|assumption|(repeat (first|assumption|(apply Le.trans;assumption))))) rfl|exact Lv_ro rfl (c0.le (by first|exact Le.refl _|assumption|(repeat (first|assumption|(apply Le.trans;assumption))))) rfl));exact QA)|(apply GP_real;exact rfl;kernel_rfl;(iterate 3 exact rfl);(first|(apply OpTo_res;exact rfl;exact has27;exact hwn _ (by first|exact Le.refl _|assumption|(repeat (first|assumption|(apply Le.trans;assumption))));rintro v3 h3 hle3 rfl;refine ⟨hle3,QN,?_⟩)))|(apply GP_done;kernel_rfl;exact rfl)|(apply GO_cond;exact rfl;all_goals (intro hc;try simp only [hcS,reduceCtorEq] at hc;try (exfalso;omega))))
    all_goals first
      | (exfalso;simp at hc;done)
      | (exfalso;omega)
      | (exact GO_retR3 rfl rfl rfl rfl rfl rfl)
end Go.Hw
set_option linter.unusedVariables false
set_option linter.unusedSimpArgs false
set_option maxRecDepth 100000
set_option maxHeartbeats 8000000
namespace Go.Hw
open Go
attribute [local irreducible] GO GOl GDp Val Fn Res CellsAt ValE Blk OwnS MapA OwnPf Has Yl
open Go.Proofs (Tryz.prog)
theorem enterR_pre (t : FTie) (x : FRes) : ∀ (l r : List FDuel) {q : List FDuel} {e : FDuel},enterR l t x = some (q,e) → enterR (l ++ r) t x = some (q ++ r,e)
  | [],r,q,e,h => by cases h
  | c :: l,r,q,e,h => by
    rw [List.cons_append]
    rw [enterR] at h ⊢
    by_cases hc : WaitD c t x
    · rw [if_pos hc] at h ⊢;cases h;rfl
    · rw [if_neg hc] at h ⊢
      cases hr : enterR l t x with
      | none => rw [hr] at h;cases h
      | some w =>
        obtain ⟨w1,w2⟩:=w
        rw [hr] at h
        cases h
        rw [enterR_pre t x l r hr]
        rfl
structure RefI (h : Ro) (t : FTie) (x : FRes) (D : List DuS) (k : Nat) (f : Bool) (ys : List DuS) : Prop where
  len : ys.length = k
  dug : ∀ p ∈ ys,DuG h p.1 p.2
  no : f = false → duels ys = duels (D.take k) ∧ enterR (duels (D.take k)) t x = none
  yes : f = true → ∃ e,enterR (duels (D.take k)) t x = some (duels ys,e) ∧ ¬ (FullD e t ∧ winD e t = none)
theorem RefI.zero (h : Ro) (t : FTie) (x : FRes) (D : List DuS) : RefI h t x D 0 false []:=⟨rfl,fun p hp => (by cases hp),fun _ => ⟨rfl,rfl⟩,fun k => (by cases k)⟩
theorem dugs_snoc {h h' : Ro} {ys : List DuS} {p : DuS} (a : ∀ p ∈ ys,DuG h p.1 p.2) (hl : Le h h') (hp : DuG h' p.1 p.2) : ∀ q ∈ ys ++ [p],DuG h' q.1 q.2:=fun q hq => by
  rcases List.mem_append.1 hq with w|w
  · exact (a q w).le hl
  · rw [List.mem_singleton.1 w];exact hp
theorem RefI.skip {h h' : Ro} {t : FTie} {x : FRes} {D : List DuS} {k : Nat} {f : Bool} {ys : List DuS} {p : DuS} (I : RefI h t x D k f ys) (hl : Le h h') (hk : k < D.length) (hp : p = D.getD k du0) (hg : DuG h' p.1 p.2) (hw : f = true ∨ ¬ WaitD p.2 t x) : RefI h' t x D (k + 1) f (ys ++ [p]):=by
  have hs:=dus_getD D hk
  rw [← hp] at hs
  refine ⟨by rw [List.length_append,I.len];rfl,dugs_snoc I.dug hl hg,fun hf => ?_,fun hf => ?_⟩
  · obtain ⟨h1,h2⟩:=I.no hf
    rw [hs,duels_snoc,h1,enterR_snoc,h2]
    refine ⟨rfl,?_⟩
    dsimp only
    rw [if_neg (hw.resolve_left (by rw [hf];decide))]
  · obtain ⟨e,h1,h2⟩:=I.yes hf
    rw [hs,duels_snoc,enterR_snoc,h1]
    exact ⟨e,rfl,h2⟩
theorem RefI.wait {h : Ro} {t : FTie} {x : FRes} {D : List DuS} {k : Nat} {ys : List DuS} {d : FDuel} (I : RefI h t x D k false ys) (hk : k < D.length) (hp : d = (D.getD k du0).2) (hw : WaitD d t x) : enterR (duels (D.take (k + 1))) t x = some (duels ys ++ [⟨d.a,d.b,d.ls ++ [x]⟩],⟨d.a,d.b,d.ls ++ [x]⟩):=by
  obtain ⟨h1,h2⟩:=I.no rfl
  rw [dus_getD D hk,← hp,enterR_snoc,h2,h1]
  dsimp only
  rw [if_pos hw]
theorem RefI.put {h h' : Ro} {t : FTie} {x : FRes} {D : List DuS} {k : Nat} {ys : List DuS} {d : FDuel} {z : Sli} (I : RefI h t x D k false ys) (hl : Le h h') (hk : k < D.length) (hp : d = (D.getD k du0).2) (hw : WaitD d t x) (hg : DuG h' z ⟨d.a,d.b,d.ls ++ [x]⟩)
    (hb : ¬ (FullD ⟨d.a,d.b,d.ls ++ [x]⟩ t ∧ winD ⟨d.a,d.b,d.ls ++ [x]⟩ t = none)) : RefI h' t x D (k + 1) true (ys ++ [(z,⟨d.a,d.b,d.ls ++ [x]⟩)]) :=
  ⟨by rw [List.length_append,I.len];rfl,dugs_snoc I.dug hl hg,fun k => (by cases k),fun _ => ⟨_,by rw [I.wait hk hp hw,duels_snoc],hb⟩⟩
theorem RefI.bad {h : Ro} {t : FTie} {x : FRes} {D : List DuS} {k : Nat} {ys : List DuS} {d : FDuel} (I : RefI h t x D k false ys) (hk : k < D.length) (hp : d = (D.getD k du0).2) (hw : WaitD d t x) : ∃ m,enterR (duels D) t x = some (m,⟨d.a,d.b,d.ls ++ [x]⟩):=by
  have:=enterR_pre t x _ (duels (D.drop (k + 1))) (I.wait hk hp hw)
  have e : duels (D.take (k + 1)) ++ duels (D.drop (k + 1)) = duels D:=by
    unfold duels;rw [← List.map_append,List.take_append_drop]
  rw [e] at this
  exact ⟨_,this⟩
theorem cupw {L : List FRes} {x : FRes} (hc : ∀ y ∈ L,∀ z ∈ L,SameCup y z) (hh : 0 < L.length → SameCup (L.getD 0 res0) x) : ∀ y ∈ L,SameCup y x:=fun y hy => by
  cases L with
  | nil => cases hy
  | cons z r =>
    have h1:=hc y hy z (by simp)
    have h2 : SameCup z x:=hh (by simp)
    unfold SameCup at *
    omega
theorem dug_new {h : Ro} {d : FDuel} {t : FTie} {x : FRes} {A : Option Addr} {c n : Nat} (hd : DuelOk d t) (hw : WaitD d t x) (hx : ResOk x) (hn : d.ls.length + 1 = n) (hs : SlOf resC 13 h A n (d.ls ++ [x])) (hc : n ≤ c) : DuG h ⟨A,n,c⟩ ⟨d.a,d.b,d.ls ++ [x]⟩:=by
  refine ⟨⟨hs,hc⟩,?_,fun y hy => ?_⟩
  · have h1:=hw.1
    have h2:=hd.ok0.1
    unfold FullD at h1
    unfold IsTie at h2
    show n ≤ 2
    omega
  · rcases List.mem_append.1 hy with w|w
    · exact hd.res y w
    · rw [List.mem_singleton.1 w];exact hx
theorem GO_cutR {C : Ctx} {ds : List Deferred} {l : Sl} {Es : List Asn} {h : Ro} {K : List Item} {n : Nat} {os : Array Oper} {dr : Bool} {α : Type} (S : α → Sl) (E : α → List Asn) (H : α → Ro) (P : α → Prop)
    (hk : ∀ a,P a → GO C ds (S a) (E a) (H a) K) (hr : ∀ K',(∀ a,P a → GO C ds (S a) (E a) (H a) K') → GO C ds l Es h (.code (.region n os dr) :: K')) : GO C ds l Es h (.code (.region n os dr) :: K):=hr K hk
theorem two_steps {CC : Ctx} {KK : List Item} {ds : List Deferred} {α : Type} (S : α → Sl) (E : α → List Asn) (H : α → Ro) (P : α → Prop) {G : Prop} (main : (∀ a,P a → GO CC ds (S a) (E a) (H a) KK) → G) (cont : ∀ a,P a → GO CC ds (S a) (E a) (H a) KK) : G:=main cont
open Classical in
theorem enter21_c (h : Ro) (s : Sli) (l : List RdS) (t : FTie) (hb : RdsAt h s.A s.n l) (hnc : s.n ≤ s.c) (hs : BrSm s l) (x : FRes) : Res Tryz.prog 17 #[brV s t,resV x] h (fun u h' => BrOut h' u (enterB ⟨t,rounds l⟩ x).1 (enterB ⟨t,rounds l⟩ x).2):=by
  refine Res_intro (args:=[_,_]) ts_ok Go.Proofs.Tryz.func17 rfl rfl fun w0 X0 => ?_
  have hck:=fun h' (hl : Le h h') => valid21_c h' s l t (hb.le hl) hs
  have hrc:=fun h' => checkR12_c h' x
  by_cases hB : BrOk ⟨t,rounds l⟩
  case' neg =>
    simp only [decide_eq_false hB] at hck
    rw [enterB_bad hB]
    dsimp only
    clear hrc
    repeat' (first|apply GO_seq|apply GO_region|apply GOl_nil|(apply GOl_to;(iterate 3 exact rfl);apply OpTo_box (e:=36);exact rfl;intro b2)|(apply GOl_to;(iterate 3 exact rfl);apply OpTo_box (e:=40);exact rfl;intro b3)|(apply GOl_to;(iterate 3 exact rfl);apply OpTo_alloc (e:=36);exact rfl;intro b4)|(apply GOl_pv;(iterate 3 exact rfl))|(apply GOl_load;exact rfl;exact Ld_blk rfl QM rfl;exact rfl;exact rfl)|(apply GOl_to;(iterate 3 exact rfl);(first|(apply OpTo_store;(iterate 3 exact rfl);exact QR;(iterate 3 exact rfl);skip)|(apply OpTo_res;exact rfl;exact has53;exact hck _ (by first|exact Le.refl _|assumption|(repeat (first|assumption|(apply Le.trans;assumption))));rintro v2 h2 hle2 rfl;skip)))|(apply GO_cond;exact rfl;all_goals (intro hc;try simp only [hcS,reduceCtorEq] at hc;try (exfalso;omega))))
    all_goals first
      | (exfalso;simp at hc;done)
      | (exact GO_retRC2 rfl rfl rfl QM rfl rfl rfl (brOut_zero _ _))
  simp only [decide_eq_true hB] at hck
  by_cases hX : ResOk x
  case' neg =>
    simp only [if_neg hX] at hrc
    rw [enterB_res hB hX]
    dsimp only
    repeat' (first|apply GO_seq|apply GO_skip|apply GO_region|apply GOl_nil|(apply GOl_to;(iterate 3 exact rfl);apply OpTo_box (e:=36);exact rfl;intro b2)|(apply GOl_to;(iterate 3 exact rfl);apply OpTo_box (e:=40);exact rfl;intro b3)|(apply GOl_to;(iterate 3 exact rfl);apply OpTo_alloc (e:=36);exact rfl;intro b4)|(apply GOl_pv;(iterate 3 exact rfl))|(apply GOl_load;exact rfl;exact Ld_blk rfl QM rfl;exact rfl;exact rfl)|(apply GOl_to;(iterate 3 exact rfl);(first|(apply OpTo_store;(iterate 3 exact rfl);exact QR;(iterate 3 exact rfl);skip)|(apply OpTo_res;exact rfl;exact has53;exact hck _ (by first|exact Le.refl _|assumption|(repeat (first|assumption|(apply Le.trans;assumption))));rintro v2 h2 hle2 rfl;skip)|(apply OpTo_val;exact rfl;exact has35;exact hrc _;skip)))|(apply GO_cond;exact rfl;all_goals (intro hc;try simp only [hcS,reduceCtorEq] at hc;try (exfalso;omega))))
    all_goals first
      | (exfalso;simp at hc;done)
      | (exfalso;omega)
      | (exact GO_retRC2 rfl rfl rfl QM rfl rfl rfl (brOut_zero _ _))
  simp only [if_pos hX] at hrc
  have hlen:=hb.row.len
  have hrow:=hb.row
  have hrl : (rounds l).length = s.n:=by rw [rounds_len,hlen]
  have h0 : 0 < s.n:=by
    rcases Nat.eq_zero_or_pos s.n with e|e
    · exact absurd (List.eq_nil_of_length_eq_zero (show (rounds l).length = 0 by omega)) hB.some
    · exact e
  obtain ⟨hlast,hdrop⟩:=take_last hrl h0
  have hnn:=hs.few
  have ra:=hrow.addrD (show s.n - 1 < s.n by omega)
  have rc : CellsAt h ((addrD s.A).add ((s.n - 1) * ty53.size)) (encRd (l.getD (s.n - 1) rd0)):=hrow.cellsD rd0 (show s.n - 1 < s.n by omega)
  have hRm:=mem7 rd0 (show s.n - 1 < l.length by omega)
  rw [rounds_getD] at hlast
  have hRa:=hb.each _ hRm
  have hRn:=hs.each _ hRm
  have hRin:=last_in hB
  dsimp only at hRin
  rw [hlast] at hRin
  have hRok:=hB.rounds _ hRin
  dsimp only at hRok
  have hEn:=enterB_none hB hX
  have hEno:=fun m e k c => enterB_no hB hX (m:=m) (d:=e) k c
  have hEy:=fun m e k c => enterB_yes hB hX (m:=m) (d:=e) k c
  dsimp only at hEn hEno hEy
  rw [hlast] at hEn hEno hEy
  rw [hdrop] at hEy
  have hlg:=fun h' (hl : Le h h') => legs21_c h' s l t (hb.le hl) hs hB.rounds
  have hcu:=hB.cup
  rw [legsL_all] at hcu
  dsimp only at hcu
  have hcw:=fun k => cupw (x:=x) hcu k
  have hall : allLegs ⟨t,rounds l⟩ = legsL (rounds l):=rfl
  rw [hall] at hEno hEy
  generalize l.getD (s.n - 1) rd0 = R at *
  have hRl:=hRa.1.row.len
  generalize hEE : enterB ⟨t,rounds l⟩ x = E at *
  repeat' (first|apply GO_seq|apply GO_skip|apply GO_block|apply GO_region|apply GOl_nil|(apply GOl_to;(iterate 3 exact rfl);apply OpTo_box (e:=36);exact rfl;intro b2)|(apply GOl_to;(iterate 3 exact rfl);apply OpTo_box (e:=40);exact rfl;intro b3)|(apply GOl_to;(iterate 3 exact rfl);apply OpTo_alloc (e:=36);exact rfl;intro b4)|(apply GOl_sub;(iterate 3 exact rfl);omega;exact rfl;exact rfl)|(apply GOl_pv;(iterate 3 exact rfl))|(apply GOl_load;exact rfl;exact Ld_blk rfl QM rfl;exact rfl;exact rfl)|(apply GOl_to;(iterate 3 exact rfl);(first|(apply OpTo_res;exact rfl;exact has53;exact hck _ (by first|exact Le.refl _|assumption|(repeat (first|assumption|(apply Le.trans;assumption))));rintro v2 h2 hle2 rfl;skip)|(apply OpTo_val;exact rfl;exact has35;exact hrc _;skip)|(apply OpTo_buildSliceO (n:=0);(iterate 3 exact rfl);exact List.cons_ne_nil _ _;(iterate 6 exact rfl);intro b8;skip)))|(apply GO_cond;exact rfl;all_goals (intro hc;try simp only [hcS,reduceCtorEq] at hc;try (exfalso;omega))))
  all_goals (try (exfalso;simp at hc;done))
  all_goals (try (exfalso;omega))
  have hl2 : Le h h2:=(by first|exact Le.refl _|assumption|(repeat (first|assumption|(apply Le.trans;assumption))))
  clear hck hrc
  refine GO_loopT (X:=Nat × List DuS × Option Addr × Nat × Bool × Ro) (fun y => y.1 ≤ R.1.n ∧ Le h y.2.2.2.2.2 ∧ RefI y.2.2.2.2.2 t x R.2 y.1 y.2.2.2.2.1 y.2.1) (fun y => R.1.n - y.1)
    (fun y => [(10,.int .i64 y.1),(9,.bool y.2.2.2.2.1),(8,.slice y.2.2.1 y.1 y.2.2.2.1),(7,.int .i64 ((s.n : Int) - 1)),(2,ptrB b2),(3,ptrB b3),(4,ptrB b4)])
    (fun y => [OwnS 24 3 (.slice y.2.2.1 y.1 y.2.2.2.1) y.1 (y.2.1.flatMap encDu),Blk b2 36 (brC s t),Blk b3 40 (resC x),Blk b4 36 (partL ty36.zero)]) (fun y => y.2.2.2.2.2) (0,[],some ⟨b8,0,none⟩,0,false,h2) ⟨by dsimp only;omega,hl2,RefI.zero _ _ _ _⟩ QS QT rfl ?_
  rintro ⟨k,ys,A,c,f,hh⟩ ⟨hk,hle,hI⟩ ih
  dsimp only at hk hle hI ih ⊢
  by_cases hkn : k < R.1.n
  · have a1:=hRa.1.row.addrD hkn
    have hda:=(hRa.1.each _ (mem7 du0 (show k < R.2.length by omega))).le hle
    have hdo:=hRok (R.2.getD k du0).2 (List.mem_map.2 ⟨_,mem7 du0 (show k < R.2.length by omega),rfl⟩)
    have c1 : CellsAt hh ((addrD R.1.A).add (k * ty24.size)) (encDu (R.2.getD k du0)):=(hRa.1.row.cellsD du0 hkn).le hle
    have rcc:=rc.le hle
    have hskip:=fun h' (hl : Le hh h') => hI.skip (h':=h') (p:=R.2.getD k du0) hl (by omega) rfl
    have hput:=fun h' (hl : Le hh h') (e0 : f = false) (hw : WaitD (R.2.getD k du0).2 t x) z => (e0 ▸ hI).put (h':=h') (d:=(R.2.getD k du0).2) (z:=z) hl (by omega) rfl hw
    have hbad:=fun (e0 : f = false) (hw : WaitD (R.2.getD k du0).2 t x) => (e0 ▸ hI).bad (d:=(R.2.getD k du0).2) (by omega) rfl hw
    have hyl:=hI.len
    generalize R.2.getD k du0 = p at *
    obtain ⟨ps,d⟩:=p
    dsimp only at hdo hskip hput hbad
    have c1 : CellsAt hh ((addrD R.1.A).add (k * ty24.size)) (duelC ps d):=c1
    have hdl:=hda.len
    dsimp only at hdl
    have hdg:=DuG.of hda hdo.1
    have hp2:=hdg.few
    have hsl:=hda.1
    dsimp only at hsl
    have hlq:=fun h' => leg21_c h' ps d ps.n
    have hwd : WaitD d t x ↔ ((ps.n : Int) < t.legs ∧ x.g.h = legA d ps.n ∧ x.g.a = legB d ps.n):=by unfold WaitD FullD;rw [hdl,Int.not_le]
    have ih2:=fun ys' A9 c9 f' hh9 (hl : Le hh hh9) (I : RefI hh9 t x R.2 (k + 1) f' ys') => ih (k + 1,ys',A9,c9,f',hh9) ⟨by dsimp only;omega,hle.trans hl,I⟩ (by dsimp only;omega)
    dsimp only at ih2
    clear ih
    by_cases hff : f = true ∨ ¬ WaitD d t x
    · have h7:=fun h' (hl : Le hh h') => hskip h' hl (hdg.le hl) hff
      clear hput hbad hEn hEno hEy hskip
      cases f
      · have hnw : ¬ ((ps.n : Int) < t.legs ∧ x.g.h = legA d ps.n ∧ x.g.a = legB d ps.n):=fun k2 => (hff.resolve_left (by decide)) (hwd.2 k2)
        repeat' (first|apply GO_seq|apply GO_skip|apply GO_inBlock|apply GO_block|apply GO_region|apply GOl_nil|(apply GOl_to;(iterate 3 exact rfl);apply OpTo_alloc (e:=24);exact rfl;intro b11)|(apply GOl_unwanted;exact rfl;exact rfl)|(apply GOl_add;(iterate 3 exact rfl);omega;exact rfl;exact rfl)|(apply GOl_pv;(iterate 3 exact rfl))|(apply GOl_load;exact rfl;exact Ld_blk rfl QM rfl;exact rfl;exact rfl)|(apply GOl_ov;exact rfl;exact rfl;(first|(apply OV_idxS (j:=s.n - 1) (n:=s.n);(iterate 5 exact rfl);exact ra;first|(with_reducible exact rfl)|omega;omega)|(apply OV_idxS (j:=k) (n:=R.1.n);(iterate 5 exact rfl);exact a1;(with_reducible exact rfl);omega)|(apply OV_load;exact rfl;first|exact Lv_ro rfl rcc rfl|exact Lv_ro rfl c1 rfl));exact QA)|(apply GOl_to;(iterate 3 exact rfl);(first|(apply OpTo_store;(iterate 3 exact rfl);exact QR;(iterate 3 exact rfl);skip)|(apply OpTo_val;exact rfl;exact has36;exact hlq _;skip)|(apply OpTo_buildSliceS (enc:=encDu) (n:=1) [((ps,d) : DuS)];(iterate 3 exact rfl);exact List.cons_ne_nil _ _;(iterate 4 exact rfl);exact encDu_len;exact rfl;exact rfl;intro b6 h6 hle6 hs6;skip)|(apply OpTo_appendS (enc:=encDu) (xs:=ys) (ys:=[((ps,d) : DuS)]);(iterate 7 exact rfl);exact hs6.le (by first|exact Le.refl _|assumption|(repeat (first|assumption|(apply Le.trans;assumption))));exact encDu_len;exact encDu_one;intro v1;exact QR;omega;exact rfl;intro A9 c9;skip)))|(apply GO_cond;exact rfl;all_goals (intro hc;try simp only [hcS,reduceCtorEq] at hc;try (exfalso;omega)))|(apply GOl_split;exact rfl;exact rfl;all_goals (intro hc;try simp only [hcS,reduceCtorEq] at hc;try (exfalso;omega))))
        all_goals first
          | (exfalso;exact hnw ⟨by omega,by assumption,by assumption⟩)
          | (exfalso;omega)
          | (have h9:=ih2 _ A9 c9 false h6 hle6 (h7 h6 hle6)
             refine GO_fit QS QT (h9))
      · repeat' (first|apply GO_seq|apply GO_skip|apply GO_inBlock|apply GO_block|apply GO_region|apply GOl_nil|(apply GOl_to;(iterate 3 exact rfl);apply OpTo_alloc (e:=24);exact rfl;intro b11)|(apply GOl_unwanted;exact rfl;exact rfl)|(apply GOl_add;(iterate 3 exact rfl);omega;exact rfl;exact rfl)|(apply GOl_pv;(iterate 3 exact rfl))|(apply GOl_load;exact rfl;exact Ld_blk rfl QM rfl;exact rfl;exact rfl)|(apply GOl_ov;exact rfl;exact rfl;(first|(apply OV_idxS (j:=s.n - 1) (n:=s.n);(iterate 5 exact rfl);exact ra;first|(with_reducible exact rfl)|omega;omega)|(apply OV_idxS (j:=k) (n:=R.1.n);(iterate 5 exact rfl);exact a1;(with_reducible exact rfl);omega)|(apply OV_load;exact rfl;first|exact Lv_ro rfl rcc rfl|exact Lv_ro rfl c1 rfl));exact QA)|(apply GOl_to;(iterate 3 exact rfl);(first|(apply OpTo_store;(iterate 3 exact rfl);exact QR;(iterate 3 exact rfl);skip)|(apply OpTo_val;exact rfl;exact has36;exact hlq _;skip)|(apply OpTo_buildSliceS (enc:=encDu) (n:=1) [((ps,d) : DuS)];(iterate 3 exact rfl);exact List.cons_ne_nil _ _;(iterate 4 exact rfl);exact encDu_len;exact rfl;exact rfl;intro b6 h6 hle6 hs6;skip)|(apply OpTo_appendS (enc:=encDu) (xs:=ys) (ys:=[((ps,d) : DuS)]);(iterate 7 exact rfl);exact hs6.le (by first|exact Le.refl _|assumption|(repeat (first|assumption|(apply Le.trans;assumption))));exact encDu_len;exact encDu_one;intro v1;exact QR;omega;exact rfl;intro A9 c9;skip)))|(apply GO_cond;exact rfl;all_goals (intro hc;try simp only [hcS,reduceCtorEq] at hc;try (exfalso;omega))))
        all_goals first
          | (exfalso;omega)
          | (exfalso;simp at hc;done)
          | (have h9:=ih2 _ A9 c9 true h6 hle6 (h7 h6 hle6)
             refine GO_fit QS QT (h9))
    · have hf0 : f = false:=by cases f;rfl;exact absurd (.inl rfl) hff
      have hw : WaitD d t x:=Classical.byContradiction fun k2 => hff (.inr k2)
      obtain ⟨hw1,hw2,hw3⟩:=hwd.1 hw
      have hdn:=fun (h' : Ro) (A' : Option Addr) (c' n' : Nat) => dug_new (h:=h') (A:=A') (c:=c') (n:=n') hdo.1 hw hX
      rw [hdl] at hdn
      obtain ⟨m9,hm9⟩:=hbad hf0 hw
      have hput2:=fun h' hl z => hput h' hl hf0 hw z
      have hEno2:=hEno _ _ hm9
      clear hskip hput hbad hEn hEno hEy hff hwd
      subst hf0
      have hfe : FullD (⟨d.a,d.b,d.ls ++ [x]⟩ : FDuel) t ↔ t.legs = (ps.n : Int) + 1:=by
        unfold FullD
        simp only [List.length_append,List.length_singleton]
        rw [hdl]
        omega
      have hwv0:=fun k2 => winV_none (d:=(⟨d.a,d.b,d.ls ++ [x]⟩ : FDuel)) (t:=t) k2
      have hwv1:=winV_form (⟨d.a,d.b,d.ls ++ [x]⟩ : FDuel) t
      repeat' (first|apply GO_seq|apply GO_skip|apply GO_block|apply GO_region|apply GOl_nil|(apply GOl_to;(iterate 3 exact rfl);apply OpTo_alloc (e:=24);exact rfl;intro b11)|(apply GOl_pv;(iterate 3 exact rfl))|(apply GOl_load;exact rfl;exact Ld_blk rfl QM rfl;exact rfl;exact rfl)|(apply GOl_ov;exact rfl;exact rfl;(first|(apply OV_idxS (j:=s.n - 1) (n:=s.n);(iterate 5 exact rfl);exact ra;first|(with_reducible exact rfl)|omega;omega)|(apply OV_idxS (j:=k) (n:=R.1.n);(iterate 5 exact rfl);exact a1;(with_reducible exact rfl);omega)|(apply OV_load;exact rfl;first|exact Lv_ro rfl rcc rfl|exact Lv_ro rfl c1 rfl));exact QA)|(apply GOl_to;(iterate 3 exact rfl);(first|(apply OpTo_store;(iterate 3 exact rfl);exact QR;(iterate 3 exact rfl);skip)|(apply OpTo_val;exact rfl;exact has36;exact hlq _;skip)))|(apply GO_drawp (n:=16) [0,1,2,3,4,5,6,7,8] [(1,0),(2,0),(4,0),(0,2),(10,5),(3,2),(4,5),(5,1),(6,1),(7,0),(8,1),(3,1),(6,1),(7,0),(8,1),(0,1),(3,1),(6,1),(7,0),(8,1)];kernel_rfl)|(apply GP_pv;exact rfl;kernel_rfl;(iterate 3 exact rfl))|(apply GP_loadB;exact rfl;kernel_rfl;(iterate 3 exact rfl);exact QM;exact rfl;exact rfl)|(apply GP_real;exact rfl;kernel_rfl;(iterate 3 exact rfl);(first|(apply OpTo_store;(iterate 3 exact rfl);exact QR;(iterate 3 exact rfl);refine ⟨Le.refl _,QN,?_⟩)|(apply OpTo_buildSliceO (n:=0);(iterate 3 exact rfl);exact List.cons_ne_nil _ _;(iterate 6 exact rfl);intro bL;refine ⟨Le.refl _,QN,?_⟩)|(apply OpTo_appendS (enc:=resC) (xs:=[]) (ys:=d.ls);(iterate 7 exact rfl);exact hsl.le (by first|exact Le.refl _|assumption|(repeat (first|assumption|(apply Le.trans;assumption))));exact resC_len;exact resC_one;intro v1;exact QR;omega;exact rfl;intro A5 c5;refine ⟨Le.refl _,QN,?_⟩)|(apply OpTo_buildSliceS (enc:=resC) (n:=1) [x];(iterate 3 exact rfl);exact List.cons_ne_nil _ _;(iterate 4 exact rfl);exact resC_len;exact rfl;exact rfl;intro b6 h6 hle6 hs6;refine ⟨hle6,QN,?_⟩)|(apply OpTo_appendS (enc:=resC) (xs:=[] ++ d.ls) (ys:=[x]);(iterate 7 exact rfl);exact hs6.le (by first|exact Le.refl _|assumption|(repeat (first|assumption|(apply Le.trans;assumption))));exact resC_len;exact resC_one;intro v1;exact QR;omega;exact rfl;intro A9 c9;refine ⟨Le.refl _,QN,?_⟩)))|(apply GP_two;kernel_rfl;exact rfl;exact rfl)|(apply RealP_intro;(iterate 4 exact rfl);(first|(apply OpTo_buildSliceO (n:=0);(iterate 3 exact rfl);exact List.cons_ne_nil _ _;(iterate 6 exact rfl);intro bL;refine ⟨Le.refl _,QN,?_⟩)|(apply OpTo_appendS (enc:=resC) (xs:=[]) (ys:=d.ls);(iterate 7 exact rfl);exact hsl.le (by first|exact Le.refl _|assumption|(repeat (first|assumption|(apply Le.trans;assumption))));exact resC_len;exact resC_one;intro v1;exact QR;omega;exact rfl;intro A5 c5;refine ⟨Le.refl _,QN,?_⟩)|(apply OpTo_buildSliceS (enc:=resC) (n:=1) [x];(iterate 3 exact rfl);exact List.cons_ne_nil _ _;(iterate 4 exact rfl);exact resC_len;exact rfl;exact rfl;intro b6 h6 hle6 hs6;refine ⟨hle6,QN,?_⟩)))|(apply GP_done;kernel_rfl;exact rfl)|(apply GO_cond;exact rfl;all_goals (intro hc;try simp only [hcS,reduceCtorEq] at hc;try (exfalso;omega)))|(apply GOl_split;exact rfl;exact rfl;all_goals (intro hc;try simp only [hcS,reduceCtorEq] at hc;try (exfalso;omega))))
      all_goals (try (exfalso;omega))
      all_goals (try (exfalso;simp at hc;done))
      all_goals
        refine GOl_relC (enc:=resC) (e:=40) (sz:=13) (n:=0 + ps.n + 1) (xs:=[] ++ d.ls ++ [x]) resC_len (by rw [List.nil_append,List.length_append,hdl,Nat.zero_add];rfl) QK ?_
        intro A10 c10 h10 hle10 e10 hnc10 hs10
        cases e10
        have hl10 : Le hh h10:=(by first|exact Le.refl _|assumption|(repeat (first|assumption|(apply Le.trans;assumption))))
        have hdg2:=hdn h10 A9 c9 (0 + ps.n + 1) (by omega) hs10 hnc10
        have hde : ∀ h',Le h10 h' → Res Tryz.prog 27 #[duelV ⟨A9,0 + ps.n + 1,c9⟩ ⟨d.a,d.b,d.ls ++ [x]⟩,tieV t] h' (fun u _ => u = winV ⟨d.a,d.b,d.ls ++ [x]⟩ t):=fun h' hl => (decided_c h' ⟨A9,0 + ps.n + 1,c9⟩ ⟨d.a,d.b,d.ls ++ [x]⟩ t (hdg2.le hl).at' (by show 0 + ps.n + 1 ≤ _;omega)).mono fun u h2 _ ⟨c,b,e,k⟩ => k (hdg2.le hl)
        by_cases hB2 : FullD (⟨d.a,d.b,d.ls ++ [x]⟩ : FDuel) t ∧ winD (⟨d.a,d.b,d.ls ++ [x]⟩ : FDuel) t = none
        · have hE:=hEno2 fun k => k.2.2 hB2
          have hfl:=hfe.1 hB2.1
          obtain ⟨w,hw9⟩:=hwv0 hB2.2
          rw [hw9] at hde
          rw [hE]
          dsimp only
          clear hwv0 hwv1 hput2 hEno2 ih2
          repeat' (first|apply GO_seq|apply GO_region|apply GOl_nil|(apply GOl_pv;(iterate 3 exact rfl))|(apply GOl_load;exact rfl;exact Ld_blk rfl QM rfl;exact rfl;exact rfl)|(apply GOl_to;(iterate 3 exact rfl);(first|(apply OpTo_store;(iterate 3 exact rfl);exact QR;(iterate 3 exact rfl);skip)|(apply OpTo_res;exact rfl;exact has27;exact hde _ (by first|exact Le.refl _|assumption|(repeat (first|assumption|(apply Le.trans;assumption))));rintro v11 h11 hle11 rfl;skip)))|(apply GO_cond;exact rfl;all_goals (intro hc;try simp only [hcS,reduceCtorEq] at hc;try (exfalso;omega)))|(apply GOl_split;exact rfl;exact rfl;all_goals (intro hc;try simp only [hcS,reduceCtorEq] at hc;try (exfalso;omega))))
          all_goals first
            | (exfalso;omega)
            | (exfalso;simp at hc;done)
            | (exact GO_retRC2 rfl rfl rfl QM rfl rfl rfl (brOut_zero _ _))
        · obtain ⟨w,ok,hwv,hfo⟩:=hwv1 hB2
          rw [hwv] at hde
          have h7:=fun h' (hl : Le h10 h') => hput2 h' (hl10.trans hl) ⟨A9,0 + ps.n + 1,c9⟩ (hdg2.le hl) hB2
          have hnok : ¬ (t.legs = (ps.n : Int) + 1 ∧ ok = false):=fun k => by
            have:=hfo (decide_eq_true (hfe.2 k.1))
            rw [k.2] at this;cases this
          clear hwv0 hwv1 hput2 hEno2 hfo hwv
          cases ok
          all_goals
            repeat' (first|apply GO_seq|apply GO_skip|apply GO_inBlock|apply GO_region|apply GOl_nil|(apply GOl_unwanted;exact rfl;exact rfl)|(apply GOl_add;(iterate 3 exact rfl);omega;exact rfl;exact rfl)|(apply GOl_pv;(iterate 3 exact rfl))|(apply GOl_load;exact rfl;exact Ld_blk rfl QM rfl;exact rfl;exact rfl)|(apply GOl_to;(iterate 3 exact rfl);(first|(apply OpTo_store;(iterate 3 exact rfl);exact QR;(iterate 3 exact rfl);skip)|(apply OpTo_res;exact rfl;exact has27;exact hde _ (by first|exact Le.refl _|assumption|(repeat (first|assumption|(apply Le.trans;assumption))));rintro v11 h11 hle11 rfl;skip)|(apply OpTo_buildSliceS (enc:=encDu) (n:=1) [(((⟨A9,0 + ps.n + 1,c9⟩ : Sli),⟨d.a,d.b,d.ls ++ [x]⟩) : DuS)];(iterate 3 exact rfl);exact List.cons_ne_nil _ _;(iterate 4 exact rfl);exact encDu_len;exact rfl;exact rfl;intro b12 h12 hle12 hs12;skip)|(apply OpTo_appendS (enc:=encDu) (xs:=ys) (ys:=[(((⟨A9,0 + ps.n + 1,c9⟩ : Sli),⟨d.a,d.b,d.ls ++ [x]⟩) : DuS)]);(iterate 7 exact rfl);exact hs12.le (by first|exact Le.refl _|assumption|(repeat (first|assumption|(apply Le.trans;assumption))));exact encDu_len;exact encDu_one;intro v1;exact QR;omega;exact rfl;intro A13 c13;skip)))|(apply GO_cond;exact rfl;all_goals (intro hc;try simp only [hcS,reduceCtorEq] at hc;try (exfalso;omega)))|(apply GOl_split;exact rfl;exact rfl;all_goals (intro hc;try simp only [hcS,reduceCtorEq] at hc;try (exfalso;omega))))
          all_goals first
            | (exfalso;exact hnok ⟨by omega,rfl⟩)
            | (exfalso;omega)
            | (exfalso;simp at hc;done)
            | (have h9:=ih2 _ A13 c13 true h12 (hl10.trans (by first|exact Le.refl _|assumption|(repeat (first|assumption|(apply Le.trans;assumption))))) (h7 h12 (by first|exact Le.refl _|assumption|(repeat (first|assumption|(apply Le.trans;assumption)))))
               refine GO_fit QS QT (h9))
  · clear ih
    obtain rfl : k = R.1.n:=by omega
    have hyl:=hI.len
    have htake : R.2.take R.1.n = R.2:=List.take_of_length_le (by omega)
    have hno:=hI.no
    have hyes:=hI.yes
    rw [htake] at hno hyes
    have hdug:=hI.dug
    clear hI
    have hll : (l.take (s.n - 1)).length = s.n - 1:=by rw [List.length_take];omega
    have hhi:=((hrow.high (hi:=s.n - 1) (c:=s.c) (by omega) hnc).le hle)
    refine GO_relC (enc:=encDu) (e:=24) (sz:=3) (n:=R.1.n) (xs:=ys) encDu_len hyl QK ?_
    intro A20 c20 h20 hle20 e20 hnc20 hs20
    cases e20
    have hhi:=hhi.le hle20
    have hl20 : Le h h20:=hle.trans hle20
    have hdug2:=fun p hp => (hdug p hp).le hle20
    have rc20 : CellsAt h20 ((addrD s.A).add ((s.n - 1) * ty53.size)) (encRd R):=rc.le hl20
    generalize legsL (rounds l) = L at *
    clear hcu hdug
    cases f
    · have hE:=hEn (hno rfl).2
      rw [hE]
      dsimp only
      clear hEn hEno hEy hno hyes
      repeat' (first|apply GO_seq|apply GO_region|apply GOl_nil|(apply GO_exit;exact rfl)|(apply GOl_pv;(iterate 3 exact rfl))|(apply GOl_load;exact rfl;exact Ld_blk rfl QM rfl;exact rfl;exact rfl)|(apply GOl_ov;exact rfl;exact rfl;(first|(apply OV_idxS (j:=s.n - 1) (n:=s.n);(iterate 5 exact rfl);exact ra;first|(with_reducible exact rfl)|omega;omega)|(apply OV_load;exact rfl;exact Lv_ro rfl rc20 rfl));exact QA)|(apply GOl_to;(iterate 3 exact rfl);(first|(apply OpTo_store;(iterate 3 exact rfl);exact QR;(iterate 3 exact rfl);skip)|(apply OpTo_res;exact rfl;exact has54;exact hlg _ (by first|exact Le.refl _|assumption|(repeat (first|assumption|(apply Le.trans;assumption))));rintro v21 h21 hle21 ⟨A21,c21,rfl,hs21⟩;skip)))|(apply GO_drawp (n:=22) [0,1,2,3,4,5,6,7,8,9,10,11,12,13,14,15,16,17,18,19,20,21,22,23,24,25,26,27,28,29,30,31,32,33,34] [(0,0),(1,0),(2,0),(3,0),(4,0),(5,0),(6,0),(7,0),(8,0),(9,0),(10,0),(11,0),(12,0),(13,0),(14,0),(15,0),(16,0),(17,0),(18,0),(19,0),(20,0),(21,0),(22,0),(23,0),(24,0),(25,0),(26,0),(27,0),(28,0),(29,0),(30,0),(31,0),(32,0),(33,0),(34,0)];kernel_rfl)|(apply GP_un;exact rfl;kernel_rfl;exact rfl;exact rfl)|(apply GP_pv;exact rfl;kernel_rfl;(iterate 3 exact rfl))|(apply GP_done;kernel_rfl;exact rfl)|(apply GO_cond;exact rfl;all_goals (intro hc;try simp only [hcS,reduceCtorEq] at hc;try (exfalso;omega))))
      all_goals first
        | (exfalso;omega)
        | (exfalso;simp at hc;done)
        | (exact GO_retRC2 rfl rfl rfl QM rfl rfl rfl (brOut_zero _ _))
    obtain ⟨e,h1,h2⟩:=hyes rfl
    by_cases h8 : 8 ≤ x.g.c
    case' neg =>
      have hE:=hEno _ _ h1 (fun k => h8 k.1)
      rw [hE]
      dsimp only
      clear hEn hEno hEy hno hyes
      repeat' (first|apply GO_seq|apply GO_region|apply GOl_nil|(apply GO_exit;exact rfl)|(apply GOl_pv;(iterate 3 exact rfl))|(apply GOl_load;exact rfl;exact Ld_blk rfl QM rfl;exact rfl;exact rfl)|(apply GOl_ov;exact rfl;exact rfl;(first|(apply OV_idxS (j:=s.n - 1) (n:=s.n);(iterate 5 exact rfl);exact ra;first|(with_reducible exact rfl)|omega;omega)|(apply OV_load;exact rfl;exact Lv_ro rfl rc20 rfl));exact QA)|(apply GOl_to;(iterate 3 exact rfl);(first|(apply OpTo_store;(iterate 3 exact rfl);exact QR;(iterate 3 exact rfl);skip)|(apply OpTo_res;exact rfl;exact has54;exact hlg _ (by first|exact Le.refl _|assumption|(repeat (first|assumption|(apply Le.trans;assumption))));rintro v21 h21 hle21 ⟨A21,c21,rfl,hs21⟩;skip)))|(apply GO_drawp (n:=22) [0,1,2,3,4,5,6,7,8,9,10,11,12,13,14,15,16,17,18,19,20,21,22,23,24,25,26,27,28,29,30,31,32,33,34] [(0,0),(1,0),(2,0),(3,0),(4,0),(5,0),(6,0),(7,0),(8,0),(9,0),(10,0),(11,0),(12,0),(13,0),(14,0),(15,0),(16,0),(17,0),(18,0),(19,0),(20,0),(21,0),(22,0),(23,0),(24,0),(25,0),(26,0),(27,0),(28,0),(29,0),(30,0),(31,0),(32,0),(33,0),(34,0)];kernel_rfl)|(apply GP_un;exact rfl;kernel_rfl;exact rfl;exact rfl)|(apply GP_pv;exact rfl;kernel_rfl;(iterate 3 exact rfl))|(apply GP_loadB;exact rfl;kernel_rfl;(iterate 3 exact rfl);exact QM;exact rfl;exact rfl)|(apply GP_done;kernel_rfl;exact rfl)|(apply GP_split;(iterate 5 exact rfl);all_goals (intro hc;try simp only [hcS,reduceCtorEq] at hc;try (exfalso;omega)))|(apply GO_cond;exact rfl;all_goals (intro hc;try simp only [hcS,reduceCtorEq] at hc;try (exfalso;omega))))
      all_goals first
        | (exfalso;omega)
        | (exfalso;simp at hc;done)
        | (exact GO_retRC2 rfl rfl rfl QM rfl rfl rfl (brOut_zero _ _))
    by_cases hL : 0 < L.length → SameCup (L.getD 0 res0) x
    case' neg =>
      have hLp : 0 < L.length:=by
        rcases Nat.eq_zero_or_pos L.length with k|k
        · exact absurd (fun q => by omega) hL
        · exact k
      have hS : ¬ ((L.getD 0 res0).g.s = x.g.s ∧ (L.getD 0 res0).g.c = x.g.c):=fun k => hL fun _ => by unfold SameCup;exact k
      have hE:=hEno _ _ h1 (fun k => hL fun k0 => k.2.1 _ (mem7 res0 k0))
      rw [hE]
      dsimp only
      clear hEn hEno hEy hno hyes hL hcw
      repeat' (first|apply GO_seq|apply GO_region|apply GOl_nil|(apply GO_exit;exact rfl)|(apply GOl_pv;(iterate 3 exact rfl))|(apply GOl_load;exact rfl;exact Ld_blk rfl QM rfl;exact rfl;exact rfl)|(apply GOl_ov;exact rfl;exact rfl;(first|(apply OV_idxS (j:=s.n - 1) (n:=s.n);(iterate 5 exact rfl);exact ra;first|(with_reducible exact rfl)|omega;omega)|(apply OV_load;exact rfl;first|exact Lv_ro rfl rc20 rfl|exact Lv_roF2 rfl (hs21.cellsD res0 (show 0 < L.length by omega)) rfl));exact QA)|(apply GOl_to;(iterate 3 exact rfl);(first|(apply OpTo_store;(iterate 3 exact rfl);exact QR;(iterate 3 exact rfl);skip)|(apply OpTo_res;exact rfl;exact has54;exact hlg _ (by first|exact Le.refl _|assumption|(repeat (first|assumption|(apply Le.trans;assumption))));rintro v21 h21 hle21 ⟨A21,c21,rfl,hs21⟩;skip)))|(apply GO_drawp (n:=22) [0,1,2,3,4,5,6,7,8,9,10,11,12,13,14,15,16,17,18,19,20,21,22,23,24,25,26,27,28,29,30,31,32,33,34] [(0,0),(1,0),(2,0),(3,0),(4,0),(5,0),(6,0),(7,0),(8,0),(9,0),(10,0),(11,0),(12,0),(13,0),(14,0),(15,0),(16,0),(17,0),(18,0),(19,0),(20,0),(21,0),(22,0),(23,0),(24,0),(25,0),(26,0),(27,0),(28,0),(29,0),(30,0),(31,0),(32,0),(33,0),(34,0)];kernel_rfl)|(apply GP_un;exact rfl;kernel_rfl;exact rfl;exact rfl)|(apply GP_pv;exact rfl;kernel_rfl;(iterate 3 exact rfl))|(apply GP_loadB;exact rfl;kernel_rfl;(iterate 3 exact rfl);exact QM;exact rfl;exact rfl)|(apply GP_ov;exact rfl;kernel_rfl;exact rfl;exact rfl;(first|(apply OV_idxS (j:=0) (n:=L.length);(iterate 5 exact rfl);exact hs21.addrD (show 0 < L.length by omega);omega;omega)|(apply OV_load;exact rfl;first|exact Lv_ro rfl rc20 rfl|exact Lv_roF2 rfl (hs21.cellsD res0 (show 0 < L.length by omega)) rfl));exact QA)|(apply GP_done;kernel_rfl;exact rfl)|(apply GP_split;(iterate 5 exact rfl);all_goals (intro hc;try simp only [hcS,reduceCtorEq] at hc;try (exfalso;omega)))|(apply GO_cond;exact rfl;all_goals (intro hc;try simp only [hcS,reduceCtorEq] at hc;try (exfalso;omega))))
      all_goals first
        | (exfalso;omega)
        | (exfalso;simp at hc;done)
        | (exfalso;exact hS ⟨by assumption,by assumption⟩)
        | (exact GO_retRC2 rfl rfl rfl QM rfl rfl rfl (brOut_zero _ _))
    have hE:=hEy _ _ h1 ⟨h8,hcw hL,h2⟩
    rw [hE]
    dsimp only
    have hS : 0 < L.length → (L.getD 0 res0).g.s = x.g.s ∧ (L.getD 0 res0).g.c = x.g.c:=hL
    have hwi : ∀ h',Le h20 h' → Res Tryz.prog 55 #[.slice A R.1.n c,tieV t] h' (fun u h2 => WinsOut h2 u (winsR (duels ys) t)):=fun h' hl => winners21_c h' A R.1.n c ys t ⟨hs20.le hl,fun p hp => ((hdug2 p hp).le hl).at'⟩ hRn fun p hp => (hdug2 p hp).le hl
    have heach : ∀ h',Le h20 h' → ∀ r ∈ l,RdAt h' r:=fun h' hl r hr => (hb.each r hr).le (hl20.trans hl)
    have hra20 : ∀ h',Le h20 h' → RdAt h' (⟨A,R.1.n,c⟩,ys):=fun h' hl => ⟨⟨hs20.le hl,fun p hp => ((hdug2 p hp).le hl).at'⟩,hnc20⟩
    clear hEn hEno hEy hno hyes hL hcw
    apply two_steps (ds:=[]) (α:=Nat × Option Addr × Nat × Ro) (fun a => [(17,ptrB a.1),(8,.slice A R.1.n c),(2,ptrB b2),(4,ptrB b4)]) (fun a => [OwnS 53 1 (.slice a.2.1 (0 + (s.n - 1) + 1) a.2.2.1) (0 + (s.n - 1) + 1) (([] ++ l.take (s.n - 1) ++ [(((⟨A,R.1.n,c⟩ : Sli),ys) : RdS)]).flatMap encRd),Blk a.1 36 (brC ⟨a.2.1,0 + (s.n - 1) + 1,a.2.2.1⟩ t),Blk b2 36 (brC s t),Blk b4 36 (partL ty36.zero)]) (fun a => a.2.2.2) (fun a => Le h20 a.2.2.2)
    case main =>
      intro hkey
      repeat' (first|apply GO_seq|apply GO_skip|apply GO_region|apply GOl_nil|(apply GO_exit;exact rfl)|(refine GO_cutR (n:=24) (α:=Nat × Option Addr × Nat × Ro) (fun a => [(17,ptrB a.1),(8,.slice A R.1.n c),(2,ptrB b2),(4,ptrB b4)]) (fun a => [OwnS 53 1 (.slice a.2.1 (0 + (s.n - 1) + 1) a.2.2.1) (0 + (s.n - 1) + 1) (([] ++ l.take (s.n - 1) ++ [(((⟨A,R.1.n,c⟩ : Sli),ys) : RdS)]).flatMap encRd),Blk a.1 36 (brC ⟨a.2.1,0 + (s.n - 1) + 1,a.2.2.1⟩ t),Blk b2 36 (brC s t),Blk b4 36 (partL ty36.zero)]) (fun a => a.2.2.2) (fun a => Le h20 a.2.2.2) hkey ?_)|(apply GOl_pv;(iterate 3 exact rfl))|(apply GOl_load;exact rfl;exact Ld_blk rfl QM rfl;exact rfl;exact rfl)|(apply GOl_ov;exact rfl;exact rfl;(first|(apply OV_idxS (j:=s.n - 1) (n:=s.n);(iterate 5 exact rfl);exact ra;first|(with_reducible exact rfl)|omega;omega)|(apply OV_load;exact rfl;first|exact Lv_ro rfl rc20 rfl|exact Lv_roF2 rfl (hs21.cellsD res0 (show 0 < L.length by omega)) rfl));exact QA)|(apply GOl_to;(iterate 3 exact rfl);(first|(apply OpTo_res;exact rfl;exact has54;exact hlg _ (by first|exact Le.refl _|assumption|(repeat (first|assumption|(apply Le.trans;assumption))));rintro v21 h21 hle21 ⟨A21,c21,rfl,hs21⟩;skip)))|(apply GO_drawp (n:=22) [0,1,2,3,4,5,6,7,8,9,10,11,12,13,14,15,16,17,18,19,20,21,22,23,24,25,26,27,28,29,30,31,32,33,34] [(0,0),(1,0),(2,0),(3,0),(4,0),(5,0),(6,0),(7,0),(8,0),(9,0),(10,0),(11,0),(12,0),(13,0),(14,0),(15,0),(16,0),(17,0),(18,0),(19,0),(20,0),(21,0),(22,0),(23,0),(24,0),(25,0),(26,0),(27,0),(28,0),(29,0),(30,0),(31,0),(32,0),(33,0),(34,0)];kernel_rfl)|(apply GP_un;exact rfl;kernel_rfl;exact rfl;exact rfl)|(apply GP_pv;exact rfl;kernel_rfl;(iterate 3 exact rfl))|(apply GP_loadB;exact rfl;kernel_rfl;(iterate 3 exact rfl);exact QM;exact rfl;exact rfl)|(apply GP_ov;exact rfl;kernel_rfl;exact rfl;exact rfl;(first|(apply OV_idxS (j:=0) (n:=L.length);(iterate 5 exact rfl);exact hs21.addrD (show 0 < L.length by omega);omega;omega)|(apply OV_load;exact rfl;first|exact Lv_ro rfl rc20 rfl|exact Lv_roF2 rfl (hs21.cellsD res0 (show 0 < L.length by omega)) rfl));exact QA)|(apply GP_done;kernel_rfl;exact rfl)|(apply GP_split;(iterate 5 exact rfl);all_goals (intro hc;try simp only [hcS,reduceCtorEq] at hc;try (exfalso;omega)))|(apply GO_cond;exact rfl;all_goals (intro hc;try simp only [hcS,reduceCtorEq] at hc;try (exfalso;omega))))
      all_goals (try (exfalso;omega))
      all_goals (try (exfalso;simp at hc;done))
      all_goals (try (exfalso;have:=hS (by omega);omega))
      all_goals (try (exfalso;have:=hS (by omega);exact absurd this.1 (by assumption)))
      all_goals (try (exfalso;have:=hS (by omega);exact absurd this.2 (by assumption)))
      all_goals
        intro K' hk'
        clear hwi heach hra20 hlg
        repeat' (first|(apply GO_drawp (n:=24) [0,1,2,3,4,5,6,7,8,9,10,11,12,13] [(0,0),(1,0),(3,0),(4,0),(5,0),(6,0),(8,0),(2,3),(41,9),(21,12),(7,3),(14,9),(14,12),(9,2),(8,12),(10,2),(3,12),(11,0),(12,1),(13,1),(10,1),(11,0),(13,1),(9,1),(10,1),(11,0),(13,1),(7,2),(8,12),(10,2),(3,12),(11,0),(12,1),(13,1),(10,1),(11,0),(13,1),(7,1),(10,1),(11,0),(13,1),(7,2),(4,9),(9,1),(10,1),(11,0),(13,1),(7,1),(10,1),(11,0),(13,1),(2,2),(14,12),(7,2),(8,12),(10,2),(3,12),(11,0),(12,1),(13,1),(10,1),(11,0),(13,1),(7,1),(10,1),(11,0),(13,1),(2,1),(7,1),(10,1),(11,0),(13,1),(2,2),(10,9),(7,2),(4,9),(9,1),(10,1),(11,0),(13,1),(7,1),(10,1),(11,0),(13,1),(2,1),(7,1),(10,1),(11,0),(13,1)];kernel_rfl)|(apply GP_pv;exact rfl;kernel_rfl;(iterate 3 exact rfl))|(apply GP_loadB;exact rfl;kernel_rfl;(iterate 3 exact rfl);exact QM;exact rfl;exact rfl)|(apply GP_ov;exact rfl;kernel_rfl;exact rfl;exact rfl;(first|(apply OV_sliceHi (hi:=s.n - 1) (n:=s.n) (c:=s.c);(iterate 5 exact rfl);omega;omega;exact hnc));exact QA)|(apply GP_real;exact rfl;kernel_rfl;(iterate 3 exact rfl);(first|(apply OpTo_store;(iterate 3 exact rfl);exact QR;(iterate 3 exact rfl);refine ⟨Le.refl _,QN,?_⟩)|(apply OpTo_alloc;exact rfl;intro b;refine ⟨Le.refl _,QN,?_⟩)|(apply OpTo_buildSliceO (n:=0);(iterate 3 exact rfl);exact List.cons_ne_nil _ _;(iterate 6 exact rfl);intro b22;refine ⟨Le.refl _,QN,?_⟩)|(apply OpTo_appendS (enc:=encRd) (xs:=[]) (ys:=l.take (s.n - 1));(iterate 7 exact rfl);exact hhi.le (by first|exact Le.refl _|assumption|(repeat (first|assumption|(apply Le.trans;assumption))));exact encRd_len;exact encRd_one;intro v1;exact QR;omega;exact rfl;intro A23 c23;refine ⟨Le.refl _,QN,?_⟩)|(apply OpTo_buildSliceS (enc:=encRd) (n:=1) [(((⟨A,R.1.n,c⟩ : Sli),ys) : RdS)];(iterate 3 exact rfl);exact List.cons_ne_nil _ _;(iterate 4 exact rfl);exact encRd_len;exact rfl;exact rfl;intro b24 h24 hle24 hs24;refine ⟨hle24,QN,?_⟩)|(apply OpTo_appendS (enc:=encRd) (xs:=[] ++ l.take (s.n - 1)) (ys:=[(((⟨A,R.1.n,c⟩ : Sli),ys) : RdS)]);(iterate 7 exact rfl);exact hs24.le (by first|exact Le.refl _|assumption|(repeat (first|assumption|(apply Le.trans;assumption))));exact encRd_len;exact encRd_one;intro v1;exact QR;omega;exact rfl;intro A25 c25;refine ⟨Le.refl _,QN,?_⟩)))|(apply GP_two;kernel_rfl;exact rfl;exact rfl)|(apply RealP_intro;(iterate 4 exact rfl);(first|(apply OpTo_alloc;exact rfl;intro b;refine ⟨Le.refl _,QN,?_⟩)|(apply OpTo_buildSliceO (n:=0);(iterate 3 exact rfl);exact List.cons_ne_nil _ _;(iterate 6 exact rfl);intro b22;refine ⟨Le.refl _,QN,?_⟩)|(apply OpTo_appendS (enc:=encRd) (xs:=[]) (ys:=l.take (s.n - 1));(iterate 7 exact rfl);exact hhi.le (by first|exact Le.refl _|assumption|(repeat (first|assumption|(apply Le.trans;assumption))));exact encRd_len;exact encRd_one;intro v1;exact QR;omega;exact rfl;intro A23 c23;refine ⟨Le.refl _,QN,?_⟩)|(apply OpTo_buildSliceS (enc:=encRd) (n:=1) [(((⟨A,R.1.n,c⟩ : Sli),ys) : RdS)];(iterate 3 exact rfl);exact List.cons_ne_nil _ _;(iterate 4 exact rfl);exact encRd_len;exact rfl;exact rfl;intro b24 h24 hle24 hs24;refine ⟨hle24,QN,?_⟩)|(apply OpTo_appendS (enc:=encRd) (xs:=[] ++ l.take (s.n - 1)) (ys:=[(((⟨A,R.1.n,c⟩ : Sli),ys) : RdS)]);(iterate 7 exact rfl);exact hs24.le (by first|exact Le.refl _|assumption|(repeat (first|assumption|(apply Le.trans;assumption))));exact encRd_len;exact encRd_one;intro v1;exact QR;omega;exact rfl;intro A25 c25;refine ⟨Le.refl _,QN,?_⟩)))|(apply GP_done;kernel_rfl;exact rfl)|(apply GP_three;kernel_rfl;(iterate 4 exact rfl)))
        all_goals first
          | (have h9:=hk' (b,A25,c25,h24) (by first|exact Le.refl _|assumption|(repeat (first|assumption|(apply Le.trans;assumption))))
             dsimp only at h9
             refine GO_fit QS QT (h9))
    case cont =>
      rintro ⟨b17,A25,c25,h25⟩ hl25
      dsimp only at hl25 ⊢
      clear hlg rc20 hhi
      have hwi:=fun h' (hl : Le h25 h') => hwi h' (hl25.trans hl)
      have heach:=fun h' (hl : Le h25 h') => heach h' (hl25.trans hl)
      have hra25:=fun h' (hl : Le h25 h') => hra20 h' (hl25.trans hl)
      clear hra20
      cases hwn : winsR (duels ys) t with
      | none =>
        rw [hwn] at hwi
        unfold WinsOut at hwi
        rw [nextR_no hwn]
        repeat' (first|apply GO_seq|apply GO_skip|apply GO_region|apply GOl_nil|(apply GOl_unwanted;exact rfl;exact rfl)|(apply GOl_pv;(iterate 3 exact rfl))|(apply GOl_load;exact rfl;exact Ld_blk rfl QM rfl;exact rfl;exact rfl)|(apply GOl_to;(iterate 3 exact rfl);(first|(apply OpTo_store;(iterate 3 exact rfl);exact QR;(iterate 3 exact rfl);skip)|(apply OpTo_res;exact rfl;exact has55;exact hwi _ (by first|exact Le.refl _|assumption|(repeat (first|assumption|(apply Le.trans;assumption))));rintro v26 h26 hle26 rfl;skip)))|(apply GO_cond;exact rfl;all_goals (intro hc;try simp only [hcS,reduceCtorEq] at hc;try (exfalso;omega))))
        all_goals (try (exfalso;simp at hc;done))
        all_goals
          refine GO_relC (enc:=encRd) (e:=53) (sz:=1) (n:=0 + (s.n - 1) + 1) (xs:=[] ++ l.take (s.n - 1) ++ [(((⟨A,R.1.n,c⟩ : Sli),ys) : RdS)]) encRd_len (by rw [List.nil_append,List.length_append,hll,Nat.zero_add];rfl) QK ?_
          intro A17 c17 h17 hle17 e17 hnc17 hs17
          cases e17
          rw [List.nil_append] at hs17
          exact GO_retRC2 rfl rfl rfl QM rfl rfl rfl (entOut (heach _ (by first|exact Le.refl _|assumption|(repeat (first|assumption|(apply Le.trans;assumption))))) (fun r hr => by rw [List.mem_singleton.1 hr];exact hra25 _ (by first|exact Le.refl _|assumption|(repeat (first|assumption|(apply Le.trans;assumption))))) hs17 hnc17 rfl)
      | some cs =>
        rw [hwn] at hwi
        unfold WinsOut at hwi
        have hne:=nextR_eq hwn
        have hcl:=winsR_len hwn
        rw [duels_len,hyl] at hcl
        by_cases h2c : 2 ≤ cs.length
        · rw [if_pos h2c] at hne
          rw [hne]
          have hpa:=fun h' A5 c5 hs5 => pairs21_c h' A5 cs.length c5 cs hs5 (by omega)
          repeat' (first|apply GO_seq|apply GO_region|apply GOl_nil|(apply GOl_pv;(iterate 3 exact rfl))|(apply GOl_load;exact rfl;exact Ld_blk rfl QM rfl;exact rfl;exact rfl)|(apply GOl_to;(iterate 3 exact rfl);(first|(apply OpTo_store;(iterate 3 exact rfl);exact QR;(iterate 3 exact rfl);skip)|(apply OpTo_res;exact rfl;exact has55;exact hwi _ (by first|exact Le.refl _|assumption|(repeat (first|assumption|(apply Le.trans;assumption))));rintro v26 h26 hle26 ⟨A26,c26,rfl,hnc26,hs26⟩;skip)))|(apply GO_drawp (n:=27) [0,1,2,3,4,5,6,7] [(0,0),(1,0),(2,0),(3,1),(4,1),(5,1),(6,0),(7,1)];kernel_rfl)|(apply GP_pv;exact rfl;kernel_rfl;(iterate 3 exact rfl))|(apply GP_loadB;exact rfl;kernel_rfl;(iterate 3 exact rfl);exact QM;exact rfl;exact rfl)|(apply GP_real;exact rfl;kernel_rfl;(iterate 3 exact rfl);(first|(apply OpTo_store;(iterate 3 exact rfl);exact QR;(iterate 3 exact rfl);refine ⟨Le.refl _,QN,?_⟩)|(apply OpTo_res;exact rfl;exact has43;exact hpa _ A26 c26 (hs26.le (by first|exact Le.refl _|assumption|(repeat (first|assumption|(apply Le.trans;assumption)))));rintro v27 h27 hle27 ⟨r2,rfl,hr2,hrd2⟩;refine ⟨hle27,QN,?_⟩)|(apply OpTo_buildSliceS (enc:=encRd) (n:=1) [r2];(iterate 3 exact rfl);exact List.cons_ne_nil _ _;(iterate 4 exact rfl);exact encRd_len;exact rfl;exact rfl;intro b28 h28 hle28 hs28;refine ⟨hle28,QN,?_⟩)|(apply OpTo_appendS (enc:=encRd) (xs:=[] ++ l.take (s.n - 1) ++ [(((⟨A,R.1.n,c⟩ : Sli),ys) : RdS)]) (ys:=[r2]);(iterate 7 exact rfl);exact hs28.le (by first|exact Le.refl _|assumption|(repeat (first|assumption|(apply Le.trans;assumption))));exact encRd_len;exact encRd_one;intro v1;exact QR;omega;exact rfl;intro A29 c29;refine ⟨Le.refl _,QN,?_⟩)))|(apply GP_done;kernel_rfl;exact rfl)|(apply GO_cond;exact rfl;all_goals (intro hc;try simp only [hcS,reduceCtorEq] at hc;try (exfalso;omega))))
          all_goals (try (exfalso;omega))
          all_goals (try (exfalso;simp at hc;done))
          all_goals
            refine GO_relC (enc:=encRd) (e:=53) (sz:=1) (n:=0 + (s.n - 1) + 1 + 1) (xs:=[] ++ l.take (s.n - 1) ++ [(((⟨A,R.1.n,c⟩ : Sli),ys) : RdS)] ++ [r2]) encRd_len (by rw [List.nil_append,List.length_append,List.length_append,hll,Nat.zero_add];rfl) QK ?_
            intro A17 c17 h17 hle17 e17 hnc17 hs17
            cases e17
            rw [List.nil_append,List.append_assoc] at hs17
            exact GO_retRC2 rfl rfl rfl QM rfl rfl rfl (entOut (heach _ (by first|exact Le.refl _|assumption|(repeat (first|assumption|(apply Le.trans;assumption))))) (fun r hr => by
              rcases List.mem_append.1 hr with w9|w9
              · rw [List.mem_singleton.1 w9];exact hra25 _ (by first|exact Le.refl _|assumption|(repeat (first|assumption|(apply Le.trans;assumption))))
              · rw [List.mem_singleton.1 w9];exact hr2.le (by first|exact Le.refl _|assumption|(repeat (first|assumption|(apply Le.trans;assumption))))) hs17 hnc17 (by show [duels ys,duels r2.2] = _;rw [hrd2];rfl))
        · rw [if_neg h2c] at hne
          rw [hne]
          repeat' (first|apply GO_seq|apply GO_skip|apply GO_region|apply GOl_nil|(apply GOl_pv;(iterate 3 exact rfl))|(apply GOl_load;exact rfl;exact Ld_blk rfl QM rfl;exact rfl;exact rfl)|(apply GOl_to;(iterate 3 exact rfl);(first|(apply OpTo_store;(iterate 3 exact rfl);exact QR;(iterate 3 exact rfl);skip)|(apply OpTo_res;exact rfl;exact has55;exact hwi _ (by first|exact Le.refl _|assumption|(repeat (first|assumption|(apply Le.trans;assumption))));rintro v26 h26 hle26 ⟨A26,c26,rfl,hnc26,hs26⟩;skip)))|(apply GO_cond;exact rfl;all_goals (intro hc;try simp only [hcS,reduceCtorEq] at hc;try (exfalso;omega))))
          all_goals (try (exfalso;omega))
          all_goals (try (exfalso;simp at hc;done))
          all_goals
            refine GO_relC (enc:=encRd) (e:=53) (sz:=1) (n:=0 + (s.n - 1) + 1) (xs:=[] ++ l.take (s.n - 1) ++ [(((⟨A,R.1.n,c⟩ : Sli),ys) : RdS)]) encRd_len (by rw [List.nil_append,List.length_append,hll,Nat.zero_add];rfl) QK ?_
            intro A17 c17 h17 hle17 e17 hnc17 hs17
            cases e17
            rw [List.nil_append] at hs17
            exact GO_retRC2 rfl rfl rfl QM rfl rfl rfl (entOut (heach _ (by first|exact Le.refl _|assumption|(repeat (first|assumption|(apply Le.trans;assumption))))) (fun r hr => by rw [List.mem_singleton.1 hr];exact hra25 _ (by first|exact Le.refl _|assumption|(repeat (first|assumption|(apply Le.trans;assumption))))) hs17 hnc17 rfl)
end Go.Hw

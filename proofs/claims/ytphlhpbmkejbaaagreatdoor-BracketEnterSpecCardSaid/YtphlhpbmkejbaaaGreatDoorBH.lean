import Derived.Test.YtphlhpbmkejbaaaGreatDoorBF
import Derived.Test.YtphlhpbmkejbaaaGreatDoorBD
import Derived.Test.YtphlhpbmkejbaaaGreatDoorFE
set_option linter.unusedVariables false
set_option linter.unusedSimpArgs false
set_option maxRecDepth 100000
set_option maxHeartbeats 8000000
namespace Go.Hw
open Go
attribute [local irreducible] GO GOl GDp Val Fn Res CellsAt ValE Blk OwnS MapA OwnPf Has Yl
open Go.Proofs (Tryz.prog)
def BrFit (l : List RdS) : Prop:=∀ r ∈ l,r.1.n ≤ 4398046511104 ∧ ∀ p ∈ r.2,p.1.n ≤ 4611686018427387904
def BrFew (s : Sli) (l : List RdS) : Prop:=s.n ≤ 12 ∧ ∀ r ∈ l,r.1.n ≤ 60
theorem BrFew.sm {s : Sli} {l : List RdS} (k : BrFew s l) (f : BrFit l) : BrSm s l:=⟨by have:=k.1;omega,fun r hr => by have:=k.2 r hr;omega,fun r hr p hp => (f r hr).2 p hp⟩
theorem few21_c (h : Ro) (s : Sli) (l : List RdS) (t : FTie) (hb : RdsAt h s.A s.n l) (hf : BrFit l) (hsn : s.n ≤ 8796093022208) : Res Tryz.prog 13 #[brV s t] h (fun u _ => ∃ q,u = .bool q ∧ (q = true → BrFew s l)):=by
  refine Res_intro (args:=[_]) ts_ok Go.Proofs.Tryz.func13 rfl rfl fun w0 X0 => ?_
  have hrow:=hb.row
  have hlen:=hrow.len
  repeat' (first|apply GO_seq|apply GO_block|apply GO_region|apply GOl_nil|(apply GOl_to;(iterate 3 exact rfl);apply OpTo_box (e:=36);exact rfl;intro b1)|(apply GOl_pv;(iterate 3 exact rfl)))
  refine GO_loopT (X:=Nat × Int) (fun x => x.1 ≤ s.n ∧ x.1 ≤ 20 ∧ 0 ≤ x.2 ∧ x.2 ≤ 4611686018427387964 + (x.1 : Int) * 4398046511105 ∧ ∀ r ∈ l.take x.1,(r.1.n : Int) ≤ x.2) (fun x => s.n - x.1)
    (fun x => [(4,.int .i64 x.1),(3,.int .i64 x.2),(1,ptrB b1)]) (fun _ => [Blk b1 36 (brC s t)]) (fun _ => h) (0,0) ⟨by dsimp only;omega,by dsimp only;omega,by dsimp only;omega,by dsimp only;omega,by simp⟩ QS QT rfl ?_
  rintro ⟨i,n⟩ ⟨hi,hi2,hn0,hnb,hI⟩ ih
  dsimp only at hi hi2 hn0 hnb hI ih ⊢
  by_cases hin : i < s.n ∧ i < 20
  · obtain ⟨h1,h2⟩:=hin
    have ra:=hrow.addrD h1
    have rc : CellsAt h ((addrD s.A).add (i * ty53.size)) (encRd (l.getD i rd0)):=hrow.cellsD rd0 h1
    have hm:=mem7 rd0 (show i < l.length by omega)
    have et:=take7 rd0 (xs:=l) hlen h1
    have hra:=hb.each _ hm
    have hrf:=hf _ hm
    generalize l.getD i rd0 = R at *
    have hRl:=hra.1.row.len
    have hrn:=hrf.1
    repeat' (first|apply GO_seq|apply GO_skip|apply GO_block|apply GO_region|apply GOl_nil|(apply GOl_add;(iterate 3 exact rfl);omega;exact rfl;exact rfl)|(apply GOl_pv;(iterate 3 exact rfl))|(apply GOl_load;exact rfl;exact Ld_blk rfl QM rfl;exact rfl;exact rfl)|(apply GOl_ov;exact rfl;exact rfl;(first|(apply OV_idxS (j:=i) (n:=s.n);(iterate 5 exact rfl);exact ra;(with_reducible exact rfl);omega)|(apply OV_load;exact rfl;exact Lv_ro rfl rc rfl));exact QA)|(apply GO_cond;exact rfl;all_goals (intro hc;try simp only [hcS,reduceCtorEq] at hc;try (exfalso;omega)))|(apply GOl_split;exact rfl;exact rfl;all_goals (intro hc;try simp only [hcS,reduceCtorEq] at hc;try (exfalso;omega))))
    all_goals (try (exfalso;omega))
    refine GO_loopT (X:=Nat × Int) (fun x => x.1 ≤ R.1.n ∧ n + 1 + (R.1.n : Int) ≤ x.2 ∧ x.2 ≤ 4611686018427387964 + ((i + 1 : Nat) : Int) * 4398046511105) (fun x => R.1.n - x.1)
      (fun x => [(5,.int .i64 x.1),(3,.int .i64 x.2),(4,.int .i64 i),(1,ptrB b1)]) (fun _ => [Blk b1 36 (brC s t)]) (fun _ => h) (0,n + 1 + (R.1.n : Int)) ⟨by dsimp only;omega,by dsimp only;omega,by dsimp only;omega⟩ QS QT rfl ?_
    rintro ⟨k,m⟩ ⟨hk,hm1,hm2⟩ ihk
    dsimp only at hk hm1 hm2 ihk ⊢
    by_cases hkn : k < R.1.n ∧ m < 60
    · obtain ⟨h3,h4⟩:=hkn
      have a1:=hra.1.row.addrD h3
      have c1 : CellsAt h ((addrD R.1.A).add (k * ty24.size)) (encDu (R.2.getD k du0)):=hra.1.row.cellsD du0 h3
      have hp:=hrf.2 _ (mem7 du0 (show k < R.2.length by omega))
      generalize R.2.getD k du0 = p at *
      have h9:=ihk (k + 1,m + (p.1.n : Int)) ⟨by dsimp only;omega,by dsimp only;omega,by dsimp only;omega⟩ (by dsimp only;omega)
      dsimp only at h9
      clear ih ihk
      repeat' (first|apply GO_seq|apply GO_skip|apply GO_inBlock|apply GO_block|apply GO_region|apply GOl_nil|(apply GOl_add;(iterate 3 exact rfl);omega;exact rfl;exact rfl)|(apply GOl_pv;(iterate 3 exact rfl))|(apply GOl_load;exact rfl;exact Ld_blk rfl QM rfl;exact rfl;exact rfl)|(apply GOl_ov;exact rfl;exact rfl;(first|(apply OV_idxS (j:=i) (n:=s.n);(iterate 5 exact rfl);exact ra;(with_reducible exact rfl);omega)|(apply OV_idxS (j:=k) (n:=R.1.n);(iterate 5 exact rfl);exact a1;(with_reducible exact rfl);omega)|(apply OV_load;exact rfl;first|exact Lv_ro rfl rc rfl|exact Lv_roF rfl c1 rfl));exact QA)|(apply GO_cond;exact rfl;all_goals (intro hc;try simp only [hcS,reduceCtorEq] at hc;try (exfalso;omega)))|(apply GOl_split;exact rfl;exact rfl;all_goals (intro hc;try simp only [hcS,reduceCtorEq] at hc;try (exfalso;omega))))
      all_goals first
        | (exfalso;omega)
        | (refine GO_fit QS QT (h9))
    · have h9:=ih (i + 1,m) ⟨by dsimp only;omega,by dsimp only;omega,by dsimp only;omega,by dsimp only;omega,fun r hr => by
        dsimp only at hr ⊢
        rw [et] at hr
        rcases List.mem_append.1 hr with q|q
        · have:=hI r q;omega
        · rw [List.mem_singleton] at q;subst q;omega⟩ (by dsimp only;omega)
      dsimp only at h9
      clear ih ihk
      repeat' (first|apply GO_seq|apply GO_inBlock|apply GO_region|apply GOl_nil|(apply GO_exit;exact rfl)|(apply GOl_unwanted;exact rfl;exact rfl)|(apply GOl_add;(iterate 3 exact rfl);omega;exact rfl;exact rfl)|(apply GOl_pv;(iterate 3 exact rfl))|(apply GOl_load;exact rfl;exact Ld_blk rfl QM rfl;exact rfl;exact rfl)|(apply GOl_ov;exact rfl;exact rfl;(first|(apply OV_idxS (j:=i) (n:=s.n);(iterate 5 exact rfl);exact ra;(with_reducible exact rfl);omega)|(apply OV_load;exact rfl;exact Lv_ro rfl rc rfl));exact QA)|(apply GO_cond;exact rfl;all_goals (intro hc;try simp only [hcS,reduceCtorEq] at hc;try (exfalso;omega)))|(apply GOl_split;exact rfl;exact rfl;all_goals (intro hc;try simp only [hcS,reduceCtorEq] at hc;try (exfalso;omega))))
      all_goals first
        | (exfalso;omega)
        | (refine GO_fit QS QT (h9))
  · have hfin : s.n ≤ 12 → n ≤ 60 → BrFew s l:=fun k1 k2 => by
      rw [List.take_of_length_le (by omega)] at hI
      exact ⟨k1,fun r hr => by have:=hI r hr;omega⟩
    clear ih hI
    repeat' (first|apply GO_seq|apply GO_region|apply GOl_nil|(apply GO_exit;exact rfl)|(apply GOl_unwanted;exact rfl;exact rfl)|(apply GOl_pv;(iterate 3 exact rfl))|(apply GOl_load;exact rfl;exact Ld_blk rfl QM rfl;exact rfl;exact rfl)|(apply GO_cond;exact rfl;all_goals (intro hc;try simp only [hcS,reduceCtorEq] at hc;try (exfalso;omega)))|(apply GOl_split;exact rfl;exact rfl;all_goals (intro hc;try simp only [hcS,reduceCtorEq] at hc;try (exfalso;omega))))
    all_goals first
      | (exfalso;omega)
      | (exact GO_retR1 rfl rfl rfl ⟨leI n 60,rfl,fun hq => hfin (by omega) ((leI_t n 60).mp hq)⟩)
      | (exact GO_retR1 rfl rfl rfl ⟨false,rfl,fun hq => (by cases hq)⟩)
theorem sameDu21_c (h : Ro) (sp sq : Sli) (d : FDuel) (hp : DuAt h (sp,d)) (hq : DuAt h (sq,d)) (hn : sp.n ≤ 4611686018427387904) : Val Tryz.prog 23 #[duelV sp d,duelV sq d] h (.bool true):=by
  refine Val_intro (args:=[_,_]) ts_ok Go.Proofs.Tryz.func23 rfl rfl fun w0 X0 => ?_
  have hx:=hp.1
  have hy:=hq.1
  dsimp only at hx hy
  have hxl:=hx.len
  have hyl:=hy.len
  have hnn : sp.n = sq.n:=by omega
  repeat' (first|apply GO_seq|apply GO_skip|apply GO_block|apply GO_region|apply GOl_nil|((fail_if_success (have:=b2));apply GOl_to;(iterate 3 exact rfl);apply OpTo_box (e:=24);exact rfl;intro b2)|(apply GOl_to;(iterate 3 exact rfl);apply OpTo_box (e:=24);exact rfl;intro b3)|(apply GOl_pv;(iterate 3 exact rfl))|(apply GOl_load;exact rfl;exact Ld_blk rfl QM rfl;exact rfl;exact rfl)|(apply GO_cond;exact rfl;all_goals (intro hc;try simp only [hcS,reduceCtorEq] at hc;try (exfalso;omega)))|(apply GOl_split;exact rfl;exact rfl;all_goals (intro hc;try simp only [hcS,reduceCtorEq] at hc;try (exfalso;omega))))
  all_goals (try (exfalso;omega))
  refine GO_loopT (X:=Nat) (fun k => k ≤ sp.n) (fun k => sp.n - k) (fun k => [(5,.int .i64 k),(2,ptrB b2),(3,ptrB b3)]) (fun _ => [Blk b2 24 (duelC sp d),Blk b3 24 (duelC sq d)]) (fun _ => h) 0 (by omega) QS QT rfl ?_
  rintro k hk ih
  by_cases hkn : k < sp.n
  · have a1:=hx.addrD hkn
    have a2:=hy.addrD (show k < sq.n by omega)
    have c1 : CellsAt h ((addrD sp.A).add (k * ty40.size)) (resC (d.ls.getD k res0)):=hx.cellsD res0 hkn
    have c2 : CellsAt h ((addrD sq.A).add (k * ty40.size)) (resC (d.ls.getD k res0)):=hy.cellsD res0 (show k < sq.n by omega)
    generalize d.ls.getD k res0 = x at *
    have h9:=ih (k + 1) (by omega) (by omega)
    clear ih
    repeat' (first|apply GO_seq|apply GO_skip|apply GO_inBlock|apply GO_block|apply GO_region|apply GOl_nil|(apply GOl_add;(iterate 3 exact rfl);omega;exact rfl;exact rfl)|(apply GOl_pv;(iterate 3 exact rfl))|(apply GOl_load;exact rfl;exact Ld_blk rfl QM rfl;exact rfl;exact rfl)|(apply GO_drawp (n:=6) [0,1,2,3,4,5,6,7,8,9,10] [(0,0),(1,0),(2,0),(3,0),(4,0),(5,0),(6,0),(7,0),(8,0),(9,0),(10,0)];kernel_rfl)|(apply GP_pv;exact rfl;kernel_rfl;(iterate 3 exact rfl))|(apply GP_loadB;exact rfl;kernel_rfl;(iterate 3 exact rfl);exact QM;exact rfl;exact rfl)|(apply GP_ov;exact rfl;kernel_rfl;exact rfl;exact rfl;(first|(apply OV_idxS (j:=k) (n:=sp.n);(iterate 5 exact rfl);exact a1;(with_reducible exact rfl);omega)|(apply OV_idxS (j:=k) (n:=sq.n);(iterate 5 exact rfl);exact a2;(with_reducible exact rfl);omega)|(apply OV_load;exact rfl;first|exact Lv_ro rfl c1 rfl|exact Lv_ro rfl c2 rfl)|(apply OV_neqR;(iterate 3 exact rfl);kernel_rfl;kernel_rfl));exact QA)|(apply GP_done;kernel_rfl;exact rfl)|(apply GO_cond;exact rfl;all_goals (intro hc;try simp only [hcS,reduceCtorEq] at hc;try (exfalso;omega))))
    all_goals first
      | (exfalso;omega)
      | (exfalso;simp at hc;done)
      | (refine GO_fit QS QT (h9))
  · clear ih
    repeat' (first|apply GO_seq|apply GO_region|apply GOl_nil|(apply GO_exit;exact rfl)|(apply GOl_pv;(iterate 3 exact rfl))|(apply GOl_load;exact rfl;exact Ld_blk rfl QM rfl;exact rfl;exact rfl)|(apply GO_cond;exact rfl;all_goals (intro hc;try simp only [hcS,reduceCtorEq] at hc;try (exfalso;omega))))
    all_goals first
      | (exfalso;omega)
      | (exact GO_retV1 rfl rfl rfl rfl)
theorem rounds_at {l : List RdS} {i : Nat} (hi : i < l.length) : (rounds l)[i]? = some (duels (l.getD i rd0).2):=by
  unfold rounds
  rw [List.getElem?_map,List.getD_eq_getElem?_getD,List.getElem?_eq_getElem hi]
  rfl
theorem rounds_same {l m : List RdS} (e : rounds l = rounds m) {i : Nat} (hi : i < l.length) : duels (l.getD i rd0).2 = duels (m.getD i rd0).2:=by
  have hl : l.length = m.length:=by rw [← rounds_len l,← rounds_len m,e]
  have h1:=rounds_at hi
  have h2:=rounds_at (l:=m) (i:=i) (by omega)
  rw [e,h2] at h1
  exact (Option.some.inj h1).symm
theorem duels_same {l m : List DuS} (e : duels l = duels m) {i : Nat} (hi : i < l.length) : (l.getD i du0).2 = (m.getD i du0).2:=by
  have hl : l.length = m.length:=by rw [← duels_len l,← duels_len m,e]
  have h1 : (duels l)[i]? = some (l.getD i du0).2:=by
    unfold duels
    rw [List.getElem?_map,List.getD_eq_getElem?_getD,List.getElem?_eq_getElem hi]
    rfl
  have h2 : (duels m)[i]? = some (m.getD i du0).2:=by
    unfold duels
    rw [List.getElem?_map,List.getD_eq_getElem?_getD,List.getElem?_eq_getElem (show i < m.length by omega)]
    rfl
  rw [e,h2] at h1
  exact (Option.some.inj h1).symm
theorem same21_c (h : Ro) (s s' : Sli) (l m : List RdS) (b : FBr) (hb : BrAt h s l b) (hb' : BrAt h s' m b) (hs : BrSm s l) : Val Tryz.prog 20 #[brV s b.t,brV s' b.t] h (.bool true):=by
  refine Val_intro (args:=[_,_]) ts_ok Go.Proofs.Tryz.func20 rfl rfl fun w0 X0 => ?_
  have hr1:=hb.rs.row
  have hr2:=hb'.rs.row
  have hl1:=hr1.len
  have hl2:=hr2.len
  have e : rounds l = rounds m:=by rw [← hb.is,← hb'.is]
  have hsn:=hs.few
  have hnn : s.n = s'.n:=by rw [← hl1,← hl2,← rounds_len l,← rounds_len m,e]
  generalize b.t = t at *
  repeat' (first|apply GO_seq|apply GO_skip|apply GO_block|apply GO_region|apply GOl_nil|((fail_if_success (have:=b2));apply GOl_to;(iterate 3 exact rfl);apply OpTo_box (e:=36);exact rfl;intro b2)|(apply GOl_to;(iterate 3 exact rfl);apply OpTo_box (e:=36);exact rfl;intro b3)|(apply GOl_pv;(iterate 3 exact rfl))|(apply GOl_load;exact rfl;exact Ld_blk rfl QM rfl;exact rfl;exact rfl)|(apply GOl_ov;exact rfl;exact rfl;(first|(apply OV_neqR;(iterate 3 exact rfl);kernel_rfl;kernel_rfl));exact QA)|(apply GO_cond;exact rfl;all_goals (intro hc;try simp only [hcS,reduceCtorEq] at hc;try (exfalso;omega))))
  all_goals (try (exfalso;omega))
  all_goals (try (exfalso;simp at hc;done))
  refine GO_loopT (X:=Nat) (fun k => k ≤ s.n) (fun k => s.n - k) (fun k => [(5,.int .i64 k),(2,ptrB b2),(3,ptrB b3)]) (fun _ => [Blk b2 36 (brC s t),Blk b3 36 (brC s' t)]) (fun _ => h) 0 (by omega) QS QT rfl ?_
  rintro i hi ih
  by_cases hin : i < s.n
  · have ra:=hr1.addrD hin
    have rb:=hr2.addrD (show i < s'.n by omega)
    have rc : CellsAt h ((addrD s.A).add (i * ty53.size)) (encRd (l.getD i rd0)):=hr1.cellsD rd0 hin
    have rd : CellsAt h ((addrD s'.A).add (i * ty53.size)) (encRd (m.getD i rd0)):=hr2.cellsD rd0 (show i < s'.n by omega)
    have hm1:=hb.rs.each _ (mem7 rd0 (show i < l.length by omega))
    have hRn:=hs.each _ (mem7 rd0 (show i < l.length by omega))
    have hRg:=hs.legs _ (mem7 rd0 (show i < l.length by omega))
    have hm2:=hb'.rs.each _ (mem7 rd0 (show i < m.length by omega))
    have ed:=rounds_same e (show i < l.length by omega)
    generalize l.getD i rd0 = R at *
    generalize m.getD i rd0 = Q at *
    have hRl:=hm1.1.row.len
    have hQl:=hm2.1.row.len
    have hRQ : R.1.n = Q.1.n:=by rw [← hRl,← hQl,← duels_len R.2,← duels_len Q.2,ed]
    have ih2:=ih (i + 1) (by omega) (by omega)
    clear ih
    repeat' (first|apply GO_seq|apply GO_skip|apply GO_block|apply GO_region|apply GOl_nil|(apply GOl_pv;(iterate 3 exact rfl))|(apply GOl_load;exact rfl;exact Ld_blk rfl QM rfl;exact rfl;exact rfl)|(apply GO_drawp (n:=6) [0,1,2,3,4,5,6,7,8,9,10,11,12] [(0,0),(1,0),(2,0),(3,0),(4,0),(5,0),(6,0),(7,0),(8,0),(9,0),(10,0),(11,0),(12,0)];kernel_rfl)|(apply GP_pv;exact rfl;kernel_rfl;(iterate 3 exact rfl))|(apply GP_loadB;exact rfl;kernel_rfl;(iterate 3 exact rfl);exact QM;exact rfl;exact rfl)|(apply GP_ov;exact rfl;kernel_rfl;exact rfl;exact rfl;(first|(apply OV_idxS (j:=i) (n:=s.n);(iterate 5 exact rfl);exact ra;(with_reducible exact rfl);omega)|(apply OV_idxS (j:=i) (n:=s'.n);(iterate 5 exact rfl);exact rb;(with_reducible exact rfl);omega)|(apply OV_load;exact rfl;first|exact Lv_ro rfl rc rfl|exact Lv_ro rfl rd rfl));exact QA)|(apply GP_done;kernel_rfl;exact rfl)|(apply GO_cond;exact rfl;all_goals (intro hc;try simp only [hcS,reduceCtorEq] at hc;try (exfalso;omega))))
    all_goals (try (exfalso;omega))
    refine GO_loopT (X:=Nat) (fun k => k ≤ R.1.n) (fun k => R.1.n - k) (fun k => [(6,.int .i64 k),(5,.int .i64 i),(2,ptrB b2),(3,ptrB b3)]) (fun _ => [Blk b2 36 (brC s t),Blk b3 36 (brC s' t)]) (fun _ => h) 0 (by omega) QS QT rfl ?_
    rintro k hk ihk
    by_cases hkn : k < R.1.n
    · have a1:=hm1.1.row.addrD hkn
      have a2:=hm2.1.row.addrD (show k < Q.1.n by omega)
      have c1 : CellsAt h ((addrD R.1.A).add (k * ty24.size)) (encDu (R.2.getD k du0)):=hm1.1.row.cellsD du0 hkn
      have c2 : CellsAt h ((addrD Q.1.A).add (k * ty24.size)) (encDu (Q.2.getD k du0)):=hm2.1.row.cellsD du0 (show k < Q.1.n by omega)
      have hd1:=hm1.1.each _ (mem7 du0 (show k < R.2.length by omega))
      have hd2:=hm2.1.each _ (mem7 du0 (show k < Q.2.length by omega))
      have hpn:=hRg _ (mem7 du0 (show k < R.2.length by omega))
      have ee:=duels_same ed (show k < R.2.length by omega)
      generalize R.2.getD k du0 = p at *
      generalize Q.2.getD k du0 = q at *
      obtain ⟨p1,p2⟩:=p
      obtain ⟨q1,q2⟩:=q
      dsimp only at ee
      subst ee
      have hsd:=sameDu21_c h p1 q1 p2 hd1 hd2 hpn
      have h9:=ihk (k + 1) (by omega) (by omega)
      clear ihk ih2
      repeat' (first|apply GO_seq|apply GO_skip|apply GO_inBlock|apply GO_block|apply GO_region|apply GOl_nil|(apply GOl_add;(iterate 3 exact rfl);omega;exact rfl;exact rfl)|(apply GOl_pv;(iterate 3 exact rfl))|(apply GOl_load;exact rfl;exact Ld_blk rfl QM rfl;exact rfl;exact rfl)|(apply GOl_ov;exact rfl;exact rfl;(first|(apply OV_idxS (j:=i) (n:=s.n);(iterate 5 exact rfl);exact ra;(with_reducible exact rfl);omega)|(apply OV_load;exact rfl;first|exact Lv_ro rfl rc rfl|exact Lv_ro rfl rd rfl|exact Lv_ro rfl c1 rfl|exact Lv_ro rfl c2 rfl));exact QA)|(apply GO_drawp (n:=11) [0,1,2,3,4,5,6,7,8,9,10,11,12,13,14,15,16,17] [(0,0),(1,0),(2,0),(3,0),(4,0),(5,0),(6,0),(7,0),(8,0),(9,0),(10,0),(11,0),(12,0),(13,0),(14,0),(15,0),(16,1),(17,0)];kernel_rfl)|(apply GP_pv;exact rfl;kernel_rfl;(iterate 3 exact rfl))|(apply GP_loadB;exact rfl;kernel_rfl;(iterate 3 exact rfl);exact QM;exact rfl;exact rfl)|(apply GP_ov;exact rfl;kernel_rfl;exact rfl;exact rfl;(first|(apply OV_idxS (j:=i) (n:=s.n);(iterate 5 exact rfl);exact ra;(with_reducible exact rfl);omega)|(apply OV_idxS (j:=i) (n:=s'.n);(iterate 5 exact rfl);exact rb;(with_reducible exact rfl);omega)|(apply OV_idxS (j:=k) (n:=R.1.n);(iterate 5 exact rfl);exact a1;(with_reducible exact rfl);omega)|(apply OV_idxS (j:=k) (n:=Q.1.n);(iterate 5 exact rfl);exact a2;(with_reducible exact rfl);omega)|(apply OV_load;exact rfl;first|exact Lv_ro rfl rc rfl|exact Lv_ro rfl rd rfl|exact Lv_ro rfl c1 rfl|exact Lv_ro rfl c2 rfl));exact QA)|(apply GP_real;exact rfl;kernel_rfl;(iterate 3 exact rfl);(first|(apply OpTo_val;exact rfl;exact has23;exact hsd;refine ⟨Le.refl _,QN,?_⟩)))|(apply GP_done;kernel_rfl;exact rfl)|(apply GO_cond;exact rfl;all_goals (intro hc;try simp only [hcS,reduceCtorEq] at hc;try (exfalso;omega))))
      all_goals first
        | (exfalso;omega)
        | (exfalso;simp at hc;done)
        | (refine GO_fit QS QT (h9))
    · clear ihk
      repeat' (first|apply GO_seq|apply GO_inBlock|apply GO_region|apply GOl_nil|(apply GO_exit;exact rfl)|(apply GOl_add;(iterate 3 exact rfl);omega;exact rfl;exact rfl)|(apply GOl_pv;(iterate 3 exact rfl))|(apply GOl_load;exact rfl;exact Ld_blk rfl QM rfl;exact rfl;exact rfl)|(apply GOl_ov;exact rfl;exact rfl;(first|(apply OV_idxS (j:=i) (n:=s.n);(iterate 5 exact rfl);exact ra;(with_reducible exact rfl);omega)|(apply OV_load;exact rfl;exact Lv_ro rfl rc rfl));exact QA)|(apply GO_cond;exact rfl;all_goals (intro hc;try simp only [hcS,reduceCtorEq] at hc;try (exfalso;omega))))
      all_goals first
        | (exfalso;omega)
        | (refine GO_fit QS QT (ih2))
  · clear ih
    repeat' (first|apply GO_seq|apply GO_region|apply GOl_nil|(apply GO_exit;exact rfl)|(apply GOl_pv;(iterate 3 exact rfl))|(apply GOl_load;exact rfl;exact Ld_blk rfl QM rfl;exact rfl;exact rfl)|(apply GO_cond;exact rfl;all_goals (intro hc;try simp only [hcS,reduceCtorEq] at hc;try (exfalso;omega))))
    all_goals first
      | (exfalso;omega)
      | (exact GO_retV1 rfl rfl rfl rfl)
end Go.Hw
set_option linter.unusedVariables false
set_option linter.unusedSimpArgs false
set_option maxRecDepth 100000
set_option maxHeartbeats 8000000
namespace Go.Hw
open Go
attribute [local irreducible] GO GOl GDp Val Fn Res CellsAt ValE Blk OwnS MapA OwnPf Has Yl
open Go.Proofs (Tryz.prog)
theorem brSm_out {h : Ro} {s : Sli} {l : List RdS} {b : FBr} (hb : BrAt h s l b) (k : BrOk b ∨ b.rs = []) : BrSm s l:=by
  rcases k with k|k
  · exact brSm_ok hb k
  · have h1 : rounds l = []:=by rw [← hb.is];exact k
    have h2 : l = []:=by cases l;rfl;cases h1
    subst h2
    have:=hb.rs.row.len
    simp at this
    exact ⟨by omega,fun r hr => (by cases hr),fun r hr => (by cases hr)⟩
theorem newB_out (cs : List Int) (t : FTie) : BrOk (newB cs t).1 ∨ (newB cs t).1.rs = []:=by
  by_cases h : (newB cs t).2 = 0
  · exact .inl (new_playI h).ok
  · exact .inr (new_err h)
theorem enterB_err {b : FBr} {x : FRes} (h : (enterB b x).2 ≠ 0) : (enterB b x).1.rs = []:=by
  unfold enterB at h ⊢
  by_cases hb : BrOk b
  · rw [if_pos hb] at h ⊢
    by_cases hx : ResOk x
    · rw [if_pos hx] at h ⊢
      cases he : enterR (b.rs.getLastD []) b.t x with
      | none => rfl
      | some w =>
        obtain ⟨q,d⟩:=w
        rw [he] at h
        dsimp only at h ⊢
        by_cases hc : 8 ≤ x.g.c ∧ (∀ y ∈ allLegs b,SameCup y x) ∧ ¬ (FullD d b.t ∧ winD d b.t = none)
        · rw [if_pos hc] at h;exact absurd rfl h
        · rw [if_neg hc];rfl
    · rw [if_neg hx];rfl
  · rw [if_neg hb];rfl
theorem enterB_out (b : FBr) (x : FRes) : BrOk (enterB b x).1 ∨ (enterB b x).1.rs = []:=by
  by_cases h : (enterB b x).2 = 0
  · exact .inl (enter_played h).2.ok
  · exact .inr (enterB_err h)
end Go.Hw

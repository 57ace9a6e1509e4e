import Derived.Test.YtphlhpbmkejbaaaGreatDoorBH
import Derived.Test.YtphlhpbmkejbaaaGreatDoorF45
set_option linter.unusedVariables false
set_option linter.unusedSimpArgs false
set_option maxRecDepth 100000
set_option maxHeartbeats 8000000
namespace Go.Hw
open Go
attribute [local irreducible] GO GOl GDp Val Fn Res CellsAt ValE Blk OwnS MapA OwnPf Has Yl
open Go.Proofs (Tryz.prog)
def nextV : Option FDuel → Value
  | none => .tuple #[gameV ⟨0,0,0,0⟩,.bool false]
  | some d => .tuple #[gameV ⟨0,8,legA d d.ls.length,legB d d.ls.length⟩,.bool true]
theorem next21_c (h : Ro) (s : Sli) (l : List RdS) (t : FTie) (hb : RdsAt h s.A s.n l) (hs : BrSm s l) (h0 : 0 < s.n) : Res Tryz.prog 21 #[brV s t] h (fun u _ => u = nextV (openD ((rounds l).getLastD []) t)):=by
  refine Res_intro (args:=[_]) ts_ok Go.Proofs.Tryz.func21 rfl rfl fun w0 X0 => ?_
  have hrow:=hb.row
  have hlen:=hrow.len
  have hrl : (rounds l).length = s.n:=by rw [rounds_len,hlen]
  have hlast:=take_lastB hrl h0
  have hnn:=hs.few
  have ra:=hrow.addrD (show s.n - 1 < s.n by omega)
  have rc : CellsAt h ((addrD s.A).add ((s.n - 1) * ty53.size)) (encRd (l.getD (s.n - 1) rd0)):=hrow.cellsD rd0 (show s.n - 1 < s.n by omega)
  have hRm:=mem7 rd0 (show s.n - 1 < l.length by omega)
  rw [rounds_getD] at hlast
  have hRa:=hb.each _ hRm
  have hRn:=hs.each _ hRm
  rw [hlast]
  generalize l.getD (s.n - 1) rd0 = R at *
  have hRl:=hRa.1.row.len
  have hfull:=openD_full (l:=duels R.2) (t:=t)
  have hat:=fun i => openD_at duel0 (l:=duels R.2) (t:=t) (i:=i)
  generalize openD (duels R.2) t = o at *
  repeat' (first|apply GO_seq|apply GO_skip|apply GO_block|apply GO_region|apply GOl_nil|(apply GOl_to;(iterate 3 exact rfl);apply OpTo_box (e:=36);exact rfl;intro b1)|(apply GOl_to;(iterate 3 exact rfl);apply OpTo_alloc (e:=38);exact rfl;intro b2)|(apply GOl_sub;(iterate 3 exact rfl);omega;exact rfl;exact rfl)|(apply GOl_pv;(iterate 3 exact rfl))|(apply GOl_load;exact rfl;exact Ld_blk rfl QM rfl;exact rfl;exact rfl)|(apply GOl_ov;exact rfl;exact rfl;(first|(apply OV_idxS (j:=s.n - 1) (n:=s.n);(iterate 5 exact rfl);exact ra;first|(with_reducible exact rfl)|omega;omega)|(apply OV_load;exact rfl;exact Lv_ro rfl rc rfl));exact QA)|(apply GO_cond;exact rfl;all_goals (intro hc;try simp only [hcS,reduceCtorEq] at hc;try (exfalso;omega))))
  all_goals (try (exfalso;omega))
  refine GO_loopT (X:=Nat) (fun i => i ≤ R.1.n ∧ ∀ e ∈ (duels R.2).take i,FullD e t) (fun i => R.1.n - i)
    (fun i => [(5,.int .i64 i),(4,.slice R.1.A R.1.n R.1.c),(2,ptrB b2),(1,ptrB b1)])
    (fun _ => [Blk b1 36 (brC s t),Blk b2 38 (gameC ⟨0,0,0,0⟩)]) (fun _ => h) 0 ⟨by omega,by simp⟩ QS QT rfl ?_
  rintro i ⟨hi,hI⟩ ih
  by_cases hin : i < R.1.n
  · have a1:=hRa.1.row.addrD hin
    have c1 : CellsAt h ((addrD R.1.A).add (i * ty24.size)) (encDu (R.2.getD i du0)):=hRa.1.row.cellsD du0 hin
    have hda:=hRa.1.each _ (mem7 du0 (show i < R.2.length by omega))
    have hdd : (duels R.2).getD i duel0 = (R.2.getD i du0).2:=by
      unfold duels
      rw [List.getD_eq_getElem?_getD,List.getElem?_map,List.getD_eq_getElem?_getD,List.getElem?_eq_getElem (show i < R.2.length by omega)];rfl
    have hat2:=hat i (by rw [duels_len];omega) hI
    have htk:=take_getD duel0 (duels R.2) i (by rw [duels_len];omega)
    rw [hdd] at hat2 htk
    generalize R.2.getD i du0 = p at *
    have hdl:=hda.len
    obtain ⟨ps,d⟩:=p
    dsimp only at hdl hat2 htk
    have c1 : CellsAt h ((addrD R.1.A).add (i * ty24.size)) (duelC ps d):=c1
    clear hat
    by_cases hfd : FullD d t
    · have h9:=ih (i + 1) ⟨by omega,fun e he => by
        rw [htk] at he
        rcases List.mem_append.1 he with w|w
        · exact hI e w
        · rw [List.mem_singleton.1 w];exact hfd⟩ (by omega)
      have hfd2 : t.legs ≤ (ps.n : Int):=by unfold FullD at hfd;rw [hdl] at hfd;exact hfd
      clear ih hI hat2 hfull
      repeat' (first|apply GO_seq|apply GO_skip|apply GO_inBlock|apply GO_block|apply GO_region|apply GOl_nil|(apply GOl_to;(iterate 3 exact rfl);apply OpTo_alloc (e:=24);exact rfl;intro b6)|(apply GOl_add;(iterate 3 exact rfl);omega;exact rfl;exact rfl)|(apply GOl_pv;(iterate 3 exact rfl))|(apply GOl_load;exact rfl;exact Ld_blk rfl QM rfl;exact rfl;exact rfl)|(apply GOl_ov;exact rfl;exact rfl;(first|(apply OV_idxS (j:=i) (n:=R.1.n);(iterate 5 exact rfl);exact a1;(with_reducible exact rfl);omega)|(apply OV_load;exact rfl;exact Lv_ro rfl c1 rfl));exact QA)|(apply GOl_to;(iterate 3 exact rfl);(first|(apply OpTo_store;(iterate 3 exact rfl);exact QR;(iterate 3 exact rfl);skip)))|(apply GO_cond;exact rfl;all_goals (intro hc;try simp only [hcS,reduceCtorEq] at hc;try (exfalso;omega))))
      all_goals first
        | (exfalso;omega)
        | (refine GO_fit QS QT (h9))
    · have ho:=hat2 hfd
      rw [ho]
      have hfd2 : ¬ t.legs ≤ (ps.n : Int):=by unfold FullD at hfd;rw [hdl] at hfd;exact hfd
      unfold nextV
      dsimp only
      rw [hdl]
      clear ih hI hat2 hfull
      by_cases hz : ps.n = 0
      · rw [show legA d ps.n = d.a by unfold legA;rw [if_pos hz],show legB d ps.n = d.b by unfold legB;rw [if_pos hz]]
        repeat' (first|apply GO_seq|apply GO_skip|apply GO_block|apply GO_region|apply GOl_nil|(apply GOl_to;(iterate 3 exact rfl);apply OpTo_alloc (e:=24);exact rfl;intro b6)|(apply GOl_pv;(iterate 3 exact rfl))|(apply GOl_load;exact rfl;exact Ld_blk rfl QM rfl;exact rfl;exact rfl)|(apply GOl_ov;exact rfl;exact rfl;(first|(apply OV_idxS (j:=i) (n:=R.1.n);(iterate 5 exact rfl);exact a1;(with_reducible exact rfl);omega)|(apply OV_load;exact rfl;exact Lv_ro rfl c1 rfl));exact QA)|(apply GOl_to;(iterate 3 exact rfl);(first|(apply OpTo_store;(iterate 3 exact rfl);exact QR;(iterate 3 exact rfl);skip)))|(apply GO_cond;exact rfl;all_goals (intro hc;try simp only [hcS,reduceCtorEq] at hc;try (exfalso;omega))))
        all_goals first
          | (exfalso;omega)
          | (exact GO_retRC2 rfl rfl rfl QM rfl rfl rfl rfl)
          | (exact GO_retR2 rfl rfl rfl rfl rfl)
      · rw [show legA d ps.n = d.b by unfold legA;rw [if_neg hz],show legB d ps.n = d.a by unfold legB;rw [if_neg hz]]
        repeat' (first|apply GO_seq|apply GO_skip|apply GO_block|apply GO_region|apply GOl_nil|(apply GOl_to;(iterate 3 exact rfl);apply OpTo_alloc (e:=24);exact rfl;intro b6)|(apply GOl_pv;(iterate 3 exact rfl))|(apply GOl_load;exact rfl;exact Ld_blk rfl QM rfl;exact rfl;exact rfl)|(apply GOl_ov;exact rfl;exact rfl;(first|(apply OV_idxS (j:=i) (n:=R.1.n);(iterate 5 exact rfl);exact a1;(with_reducible exact rfl);omega)|(apply OV_load;exact rfl;exact Lv_ro rfl c1 rfl));exact QA)|(apply GOl_to;(iterate 3 exact rfl);(first|(apply OpTo_store;(iterate 3 exact rfl);exact QR;(iterate 3 exact rfl);skip)))|(apply GO_cond;exact rfl;all_goals (intro hc;try simp only [hcS,reduceCtorEq] at hc;try (exfalso;omega))))
        all_goals first
          | (exfalso;omega)
          | (exact GO_retRC2 rfl rfl rfl QM rfl rfl rfl rfl)
          | (exact GO_retR2 rfl rfl rfl rfl rfl)
  · rw [List.take_of_length_le (by rw [duels_len];omega)] at hI
    rw [hfull hI]
    clear ih hat hfull hI
    repeat' (first|apply GO_seq|apply GO_region|apply GOl_nil|(apply GO_exit;exact rfl)|(apply GOl_pv;(iterate 3 exact rfl))|(apply GOl_to;(iterate 3 exact rfl);(first|(apply OpTo_store;(iterate 3 exact rfl);exact QR;(iterate 3 exact rfl);skip)))|(apply GO_cond;exact rfl;all_goals (intro hc;try simp only [hcS,reduceCtorEq] at hc;try (exfalso;omega))))
    all_goals first
      | (exfalso;omega)
      | (exact GO_retRC2 rfl rfl rfl QM rfl rfl rfl rfl)
      | (exact GO_retR2 rfl rfl rfl rfl rfl)
end Go.Hw

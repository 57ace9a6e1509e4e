import Derived.Test.YtphlhpbmkejbaabGreatDoorSA
import Derived.Test.YtphlhpbmkejbaabGreatDoorRA
set_option linter.unusedVariables false
set_option linter.unusedSimpArgs false
set_option maxRecDepth 100000
set_option maxHeartbeats 4000000
namespace Go.Hw
open Go
attribute [local irreducible] GO GOl GDp Val Fn Res CellsAt ValE Blk OwnS MapA OwnPf Has Yl RngA
open Go.Proofs (Tryz.prog)
def SmallS (s : Fsh) (f : Fct) : Prop:=s.cl.n ≤ 60 ∧ f.eRules.length ≤ 100 ∧ s.hs.n ≤ 60 ∧ s.asn.n ≤ 60 ∧ s.hc.n ≤ 60 ∧ s.ac.n ≤ 60 ∧ s.lo.n ≤ 60
instance (s : Fsh) (f : Fct) : Decidable (SmallS s f):=by unfold SmallS;infer_instance
theorem small_c (h : Ro) (s : Fsh) (f : Fct) : Val Tryz.prog 16 #[factV s f] h (.bool (decide (SmallS s f))):=by
  refine Val_intro (args:=[_]) ts_ok Go.Proofs.Tryz.func16 rfl rfl fun w0 X0 => ?_
  repeat' (first|apply GO_seq|apply GO_region|apply GOl_nil|(apply GOl_unwanted;exact rfl;exact rfl)|(apply GOl_pv;(iterate 3 exact rfl))|(apply GOl_load;exact rfl;exact Ld_blk rfl QM rfl;exact rfl;exact rfl)|(apply GOl_to;(iterate 3 exact rfl);(first|(apply OpTo_box;exact rfl;intro b;skip)))|(apply GOl_split;exact rfl;exact rfl;all_goals (intro hc;try simp only [hcS,reduceCtorEq] at hc;try (exfalso;omega))))
  all_goals (first|(apply GO_retV1;(iterate 3 exact rfl)))
  all_goals (refine dec_ofV ?_;(try simp only [str_size,leI_t,leI_f] at *);unfold SmallS;first|omega|(simp only [Bool.false_eq_true,false_iff];omega))
theorem fewF_c (h : Ro) (A : Option Addr) (n c : Nat) (l : List (Fsh × Fct)) (hx : SlOf encF82 82 h A n l) (hn : n ≤ 9223372036854775807) (most : Int) : Val Tryz.prog 5 #[.slice A n c,.int .i64 most] h (.bool (decide ((∀ p ∈ l,SmallS p.1 p.2) ∧ (n : Int) ≤ most))):=by
  refine Val_intro (args:=[_,_]) ts_ok Go.Proofs.Tryz.func5 rfl rfl fun w0 X0 => ?_
  have hlen:=hx.len
  repeat' (first|apply GO_seq|apply GO_block|apply GO_region|apply GOl_nil|(apply GOl_pv;(iterate 3 exact rfl)))
  refine GO_loopT (X:=Nat) (fun k => k ≤ n ∧ ∀ p ∈ l.take k,SmallS p.1 p.2) (fun k => n - k) (fun k => [(5,.int .i64 k),(0,.slice A n c),(1,.int .i64 most)]) (fun _ => []) (fun _ => h) 0 ⟨by omega,by simp⟩ QS QT rfl ?_
  rintro k ⟨hk,hI⟩ ih
  by_cases hkn : k < n
  · have a1:=hx.addrD hkn
    have c1:=hx.cellsD p0 hkn
    have ht1:=take7 p0 hlen hkn
    have hm:=mem7 p0 (show k < l.length by omega)
    generalize l.getD k p0 = p at *
    have hs:=small_c h p.1 p.2
    by_cases hp : SmallS p.1 p.2
    · rw [decide_eq_true hp] at hs
      repeat' (first|apply GO_seq|apply GO_skip|apply GO_inBlock|apply GO_block|apply GO_region|apply GOl_nil|(apply GOl_add;(iterate 3 exact rfl);omega;exact rfl;exact rfl)|(apply GOl_pv;(iterate 3 exact rfl))|(apply GOl_ov;exact rfl;exact rfl;(first|(apply OV_idxS (j:=k);(iterate 5 exact rfl);exact a1;(with_reducible exact rfl);omega)|(apply OV_load;exact rfl;exact Lv_ro rfl c1 rfl));exact QA)|(apply GOl_to;(iterate 3 exact rfl);(first|(apply OpTo_val;exact rfl;exact has16;exact hs;skip)))|(apply GO_cond;exact rfl;all_goals (intro hc;try simp only [hcS,reduceCtorEq] at hc;try (exfalso;omega))))
      all_goals
        have h3:=ih (k + 1) ⟨by omega,by
          rw [ht1];intro q hq
          rw [List.mem_append,List.mem_singleton] at hq
          rcases hq with hq|rfl
          · exact hI q hq
          · exact hp⟩ (by omega)
        refine GO_fit QS QT (h3)
    · rw [decide_eq_false hp] at hs
      repeat' (first|apply GO_seq|apply GO_skip|apply GO_block|apply GO_region|apply GOl_nil|(apply GOl_pv;(iterate 3 exact rfl))|(apply GOl_ov;exact rfl;exact rfl;(first|(apply OV_idxS (j:=k);(iterate 5 exact rfl);exact a1;(with_reducible exact rfl);omega)|(apply OV_load;exact rfl;exact Lv_ro rfl c1 rfl));exact QA)|(apply GOl_to;(iterate 3 exact rfl);(first|(apply OpTo_val;exact rfl;exact has16;exact hs;skip)))|(apply GO_cond;exact rfl;all_goals (intro hc;try simp only [hcS,reduceCtorEq] at hc;try (exfalso;omega)))|(apply GO_retV1;(iterate 3 exact rfl)))
      all_goals (rw [decide_eq_false];rintro ⟨h1,_⟩;exact hp (h1 p hm))
  · rw [List.take_of_length_le (by omega)] at hI
    repeat' (first|apply GO_seq|apply GO_region|apply GOl_nil|(apply GO_exit;exact rfl)|(apply GOl_pv;(iterate 3 exact rfl))|(apply GO_cond;exact rfl;all_goals (intro hc;try simp only [hcS,reduceCtorEq] at hc;try (exfalso;omega)))|(apply GO_retV1;(iterate 3 exact rfl)))
    all_goals (refine dec_ofV ?_;rw [leI_t];exact ⟨fun h => ⟨hI,h⟩,fun h => h.2⟩)
def shF (r g d k : Int) : Fct:={ fct0 with kind:=3,day:=d,known:=k,sh:={ sheet0 with g:=⟨0,0,1,2⟩,ref:=r,hg:=g } }
def cont (l : List (Fsh × Fct)) : List Fct:=l.map (·.2)
theorem takeP_fold : ∀ (ws : List (Fsh × Fct)) (p : Pr),(∀ x ∈ ws,x.2.kind = 3 ∧ (x.2.sh.ref = 0 ∨ x.2.sh.ref = 1)) →
    optP (ws.foldl takeP p).1 = ((cont ws).filter fun f => decide (f.sh.ref = 0)).foldl takeF (optP p.1) ∧ optP (ws.foldl takeP p).2 = ((cont ws).filter fun f => decide (f.sh.ref = 1)).foldl takeF (optP p.2)
  | [],p,_ => ⟨rfl,rfl⟩
  | x :: ws,p,hw => by
    obtain ⟨hk,hr⟩:=hw x List.mem_cons_self
    obtain ⟨ih1,ih2⟩:=takeP_fold ws (takeP p x) (fun y hy => hw y (List.mem_cons_of_mem _ hy))
    have hc : cont (x :: ws) = x.2 :: cont ws:=rfl
    have one : ∀ y : Fsh × Fct,optP (if y.2.kind = 0 ∨ cmpF y.2 x.2 < 0 then x else y) = takeF (optP y) x.2:=fun y => by
      unfold optP takeF
      by_cases h1 : y.2.kind = 0
      · simp [h1,hk]
      · by_cases h2 : cmpF y.2 x.2 < 0
        · simp [h1,h2,hk]
        · simp [h1,h2]
    rw [hc,List.filter_cons,List.filter_cons,List.foldl_cons,ih1,ih2]
    rcases hr with hr|hr
    · have e1 : (takeP p x).1 = if p.1.2.kind = 0 ∨ cmpF p.1.2 x.2 < 0 then x else p.1:=by unfold takeP;rw [if_pos hr];split <;> rfl
      have e2 : (takeP p x).2 = p.2:=by unfold takeP;rw [if_pos hr];split <;> rfl
      rw [e1,e2,one,hr]
      exact ⟨rfl,rfl⟩
    · have hr0 : ¬ x.2.sh.ref = 0:=by omega
      have e1 : (takeP p x).1 = p.1:=by unfold takeP;rw [if_neg hr0];split <;> rfl
      have e2 : (takeP p x).2 = if p.2.2.kind = 0 ∨ cmpF p.2.2 x.2 < 0 then x else p.2:=by unfold takeP;rw [if_neg hr0];split <;> rfl
      rw [e1,e2,one,hr]
      exact ⟨rfl,rfl⟩
theorem putP_fold (g : FGame) : ∀ (vs : List (Fsh × Fct)) (m : List (FGame × Pr)),(lookA g (vs.foldl putP m)).getD pr0 = (vs.filter fun x => decide (x.2.sh.g = g)).foldl takeP ((lookA g m).getD pr0)
  | [],m => rfl
  | x :: vs,m => by
    rw [List.foldl_cons,putP_fold g vs,List.filter_cons]
    unfold putP
    rw [look7]
    by_cases h : x.2.sh.g = g
    · simp only [h,if_true,decide_true,Option.getD_some,List.foldl_cons]
    · simp only [h,if_false,decide_false,Bool.false_eq_true]
noncomputable def ofGameS (l : List (Fsh × Fct)) (g : FGame) : List (Fsh × Fct):=(validL l).filter fun x => decide (x.2.sh.g = g)
theorem prOf_eq (l : List (Fsh × Fct)) (g : FGame) : prOf l g = (ofGameS l g).foldl takeP pr0:=putP_fold g (validL l) []
open Classical in
theorem ofGame_mem {l : List (Fsh × Fct)} {g : FGame} {x : Fsh × Fct} : x ∈ ofGameS l g ↔ x ∈ l ∧ x.2.kind = 3 ∧ FctOk x.2 ∧ x.2.sh.g = g:=by
  unfold ofGameS validL
  rw [List.mem_filter,List.mem_filter,decide_eq_true_eq,decide_eq_true_eq]
  exact ⟨fun ⟨⟨h1,h2,h3⟩,h4⟩ => ⟨h1,h2,h3,h4⟩,fun ⟨h1,h2,h3,h4⟩ => ⟨⟨h1,h2,h3⟩,h4⟩⟩
open Classical in
theorem ofGame_sel (l : List (Fsh × Fct)) (g : FGame) (r : Int) : (cont (ofGameS l g)).filter (fun f => decide (f.sh.ref = r)) = selF (cont l) g r:=by
  unfold cont selF ofGameS validL
  rw [List.filter_map,List.filter_map,List.filter_filter,List.filter_filter]
  congr 1
  refine List.filter_congr fun x _ => ?_
  rw [Bool.eq_iff_iff]
  simp only [Function.comp_apply,Bool.and_eq_true,decide_eq_true_eq]
  unfold OfGR
  grind
theorem prOf_best (l : List (Fsh × Fct)) (g : FGame) : optP (prOf l g).1 = bestF (cont l) g 0 ∧ optP (prOf l g).2 = bestF (cont l) g 1:=by
  have h:=takeP_fold (ofGameS l g) pr0 fun x hx => by
    obtain ⟨_,h2,h3,_⟩:=ofGame_mem.1 hx
    exact ⟨h2,ref_of h3 h2⟩
  rw [ofGame_sel,ofGame_sel,← prOf_eq] at h
  exact h
theorem scoreP_eq (l : List (Fsh × Fct)) (g : FGame) : scoreP (prOf l g) = scoreF (cont l) g:=by
  unfold scoreP scoreF
  rw [(prOf_best l g).1,(prOf_best l g).2]
end Go.Hw
set_option linter.unusedVariables false
set_option linter.unusedSimpArgs false
set_option maxRecDepth 100000
set_option maxHeartbeats 4000000
namespace Go.Hw
open Go
attribute [local irreducible] GO GOl GDp Val Fn Res CellsAt ValE Blk OwnS MapA OwnPf Has Yl RngA
open Go.Proofs (Tryz.prog)
theorem keysOf_mem {ok : FGame → Pr → Bool} {m : List (FGame × Pr)} {g : FGame} : g ∈ keysOf ok m ↔ ∃ p,(g,p) ∈ m ∧ ok g p = true:=by
  unfold keysOf
  rw [List.mem_map]
  constructor
  · rintro ⟨q,hq,rfl⟩
    rw [List.mem_filter] at hq
    exact ⟨q.2,hq.1,hq.2⟩
  · rintro ⟨p,h1,h2⟩
    exact ⟨(g,p),List.mem_filter.2 ⟨h1,h2⟩,rfl⟩
theorem keysOf_nodup {ok : FGame → Pr → Bool} {m : List (FGame × Pr)} (h : (m.map (·.1)).Nodup) : (keysOf ok m).Nodup:=by
  unfold keysOf
  exact (List.filter_sublist.map _).nodup h
theorem gamesL_lt (l : List (Fsh × Fct)) (s c : Int) : (gamesL l s c).Pairwise LtG:=sortG_lt (keysOf_nodup (pairsV_nodup _))
open Classical in
theorem gamesL_mem {l : List (Fsh × Fct)} {g : FGame} {s c : Int} : g ∈ gamesL l s c ↔ g.s = s ∧ g.c = c ∧ ∃ f ∈ cont l,f.kind = 3 ∧ FctOk f ∧ f.sh.g = g:=by
  unfold gamesL
  rw [sortG_mem,keysOf_mem]
  have hk : (∃ p,(g,p) ∈ pairsL l) ↔ ∃ f ∈ cont l,f.kind = 3 ∧ FctOk f ∧ f.sh.g = g:=by
    have h1 : (∃ p,(g,p) ∈ pairsL l) ↔ g ∈ (pairsV (validL l)).map (·.1):=by
      rw [List.mem_map]
      exact ⟨fun ⟨p,h⟩ => ⟨(g,p),h,rfl⟩,fun ⟨q,h,e⟩ => ⟨q.2,by rw [← e];exact h⟩⟩
    rw [h1,pairsV_keys]
    constructor
    · rintro ⟨x,h1,h2⟩
      unfold validL at h1
      rw [List.mem_filter,decide_eq_true_eq] at h1
      exact ⟨x.2,List.mem_map.2 ⟨x,h1.1,rfl⟩,h1.2.1,h1.2.2,h2⟩
    · rintro ⟨f,h1,h2,h3,h4⟩
      obtain ⟨x,h5,rfl⟩:=List.mem_map.1 h1
      refine ⟨x,?_,h4⟩
      unfold validL
      rw [List.mem_filter,decide_eq_true_eq]
      exact ⟨h5,h2,h3⟩
  constructor
  · rintro ⟨p,h1,h2⟩
    rw [decide_eq_true_eq] at h2
    exact ⟨h2.1,h2.2,hk.1 ⟨p,h1⟩⟩
  · rintro ⟨h1,h2,h3⟩
    obtain ⟨p,h4⟩:=hk.2 h3
    exact ⟨p,h4,by simp [h1,h2]⟩
def g9 : FGame:=⟨0,0,1,2⟩
theorem score2_c (h : Ro) (hG : PowG h) (A : Option Addr) (n c : Nat) (l : List (Fsh × Fct)) (hx : FactsAt h A n l) (g : FGame) : Res Tryz.prog 7 #[.slice A n c,gameV g] h (fun u h' => ∃ s,u = scoreV s (scoreF (cont l) g) ∧ ShAt h' s (scoreF (cont l) g).sh ∧ ShSm (scoreF (cont l) g).sh):=by
  refine (scoreOf_c h hG A n c l hx g).mono ?_
  rintro v h' hl rfl
  have:=scoreP_at (prOf_at hx g)
  rw [scoreP_eq] at *
  exact ⟨_,rfl,this.1.le hl,this.2⟩
theorem FactsAt.nil (h : Ro) : FactsAt h none 0 []:=⟨SlOf.nil,fun p hp => absurd hp (by simp),by omega⟩
end Go.Hw
set_option linter.unusedVariables false
set_option linter.unusedSimpArgs false
set_option maxRecDepth 100000
set_option maxHeartbeats 4000000
namespace Go.Hw
open Go
attribute [local irreducible] GO GOl GDp Val Fn Res CellsAt ValE Blk OwnS MapA OwnPf Has Yl RngA
open Go.Proofs (Tryz.prog)
def L1 : List (Fsh × Fct):=[(fsh0,shF 0 3 7 9),(fsh0,shF 0 2 7 8)]
def L2 : List (Fsh × Fct):=[(fsh0,shF 0 2 7 8),(fsh0,shF 1 2 9 9)]
end Go.Hw

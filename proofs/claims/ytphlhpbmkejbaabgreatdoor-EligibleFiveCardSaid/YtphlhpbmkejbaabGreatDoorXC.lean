import Derived.Test.YtphlhpbmkejbaabGreatDoorXA
import Derived.Test.YtphlhpbmkejbaabGreatDoorHD
import Derived.Test.YtphlhpbmkejbaabGreatDoorSA
set_option linter.unusedVariables false
set_option linter.unusedSimpArgs false
set_option maxRecDepth 100000
set_option maxHeartbeats 8000000
namespace Go.Hw
open Go
attribute [local irreducible] GO GOl GDp Val Fn Res CellsAt ValE Blk OwnS MapA OwnPf Has Yl SepA forceL decC memS suspC suspN suspOne yelC cardsF nextC
open Go.Proofs (Tryz.prog)
theorem idxFS_c (h : Ro) (A : Option Addr) (n c : Nat) (l : List (Fsh × FScore)) (hx : SlOf encSc 15 h A n l) (hn : n ≤ 1000000) (f : FuncId) (fs cs : List Value) (p : Fsh × FScore → Bool) (hh : Has Tryz.prog f)
    (hf : ∀ x ∈ l,Val Tryz.prog f (fs ++ [Value.agg (encSc x).toArray] ++ cs).toArray h (.bool (p x))) :
    Val Tryz.prog 20 #[.slice A n c,.func (.func f) fs.toArray cs.toArray] h (.int .i64 (idx7 p l 0)):=by
  refine Val_intro (args:=[_,_]) ts_ok Go.Proofs.Tryz.func20 rfl rfl fun w0 X0 => ?_
  have hlen:=hx.len
  repeat' (first|apply GO_seq|apply GO_block|apply GO_region|apply GOl_nil|(apply GOl_pv;(iterate 3 exact rfl)))
  refine GO_loopT (X:=Nat) (fun k => k ≤ n ∧ idx7 p (l.drop k) k = idx7 p l 0) (fun k => n - k) (fun k => [(8,.int .i64 k),(7,.int .i64 n),(0,.slice A n c),(1,.func (.func f) fs.toArray cs.toArray)]) (fun _ => []) (fun _ => h) 0 ⟨by omega,rfl⟩ QS QT rfl ?_
  rintro k ⟨hk,hI⟩ ih
  by_cases hkn : k < n
  · have a1:=hx.addrD hkn
    have c1:=hx.cellsD sc0 hkn
    have hd:=drop7 sc0 hlen hkn
    have hv:=hf _ (mem7 sc0 (show k < l.length by omega))
    generalize l.getD k sc0 = x at *
    repeat' (first|apply GO_seq|apply GO_skip|apply GO_inBlock|apply GO_block|apply GO_region|apply GOl_nil|(apply GOl_add;(iterate 3 exact rfl);omega;exact rfl;exact rfl)|(apply GOl_pv;(iterate 3 exact rfl))|(apply GOl_ov;exact rfl;exact rfl;(first|(apply OV_idxS (j:=k);(iterate 5 exact rfl);exact a1;(with_reducible exact rfl);omega)|(apply OV_load;exact rfl;exact Lv_ro rfl c1 rfl));exact QA)|(apply GOl_to;(iterate 3 exact rfl);(first|(apply OpTo_valF (f:=f) (fs:=fs) (cs:=cs);exact rfl;exact rfl;exact hh;exact hv;skip)))|(apply GO_cond;exact rfl;all_goals (intro hc;try simp only [hcS,reduceCtorEq] at hc;try (exfalso;omega)))|(apply GO_retV1;(iterate 3 exact rfl)))
    · rw [← hI,hd,idx7,if_pos hc]
    · have h3:=ih (k + 1) ⟨by omega,by rw [← hI,hd,idx7,if_neg (by simp [hc])]⟩ (by omega)
      refine GO_fit QS QT (h3)
  · repeat' (first|apply GO_seq|apply GO_region|apply GOl_nil|(apply GO_exit;exact rfl)|(apply GOl_pv;(iterate 3 exact rfl))|(apply GO_cond;exact rfl;all_goals (intro hc;try simp only [hcS,reduceCtorEq] at hc;try (exfalso;omega)))|(apply GO_retV1;(iterate 3 exact rfl)))
    rw [← hI,show k = l.length by omega,List.drop_length];rfl
def playsB (club : Int) (z : FScore) : Bool:=decide (z.sh.g.h = club ∨ z.sh.g.a = club)
theorem susp1_c (h : Ro) (x : Fsh × FScore) (b1 : Nat) (m : Int × Int) (h1 : CellsAt h ⟨b1,0,none⟩ (encM2 m)) : Val Tryz.prog 21 #[.agg (encSc x).toArray,.pointer (some ⟨b1,0,none⟩)] h (.bool (playsB m.2 x.2)):=by
  refine Val_intro (args:=[_,_]) ts_ok Go.Proofs.Tryz.func21 rfl rfl fun w0 X0 => ?_
  unfold playsB
  repeat' (first|apply GO_seq|apply GO_region|apply GOl_nil|(apply GOl_unwanted;exact rfl;exact rfl)|(apply GOl_pv;(iterate 3 exact rfl))|(apply GOl_load;exact rfl;exact Ld_blk rfl QM rfl;exact rfl;exact rfl)|(apply GOl_ov;exact rfl;exact rfl;(first|(apply OV_load;exact rfl;first|exact Lv_ro rfl (by assumption) rfl|exact Lv_roF rfl (by assumption) rfl|exact Lv_roF2 rfl (by assumption) rfl|exact Lv_roF3 rfl (by assumption) rfl));exact QA)|(apply GOl_to;(iterate 3 exact rfl);(first|(apply OpTo_box;exact rfl;intro b;skip)))|(apply GOl_split;exact rfl;exact rfl;all_goals (intro hc;try simp only [hcS,reduceCtorEq] at hc;try (exfalso;omega)))|(apply GO_retV1;(iterate 3 exact rfl)))
  all_goals (refine dec_ofV ?_;(try rw [eqI_t]);grind)
def encSu (s : FSusp) : List Value:=[.int .i64 s.p,.int .i64 s.club,.int .i64 s.g.s,.int .i64 s.g.c,.int .i64 s.g.h,.int .i64 s.g.a]
def CntAt (D : List FScore) (i : Nat) (ms : List (Int × Int)) (m : List (Int × Int)) : Prop:=∀ p,(lookA p m).getD 0 = if p ∈ ms.map (·.1) then yelC (D.take (i + 1)) p else yelC (D.take i) p
theorem cnt_zero {D : List FScore} {i : Nat} {m : List (Int × Int)} (h : ∀ p,(lookA p m).getD 0 = yelC (D.take i) p) : CntAt D i [] m:=fun p => by rw [h p];simp
theorem cnt_step {D : List FScore} {i : Nat} {ms m : List (Int × Int)} {x : Int × Int} {v : Int} (h : CntAt D i ms m) (hv : v = yelC (D.take (i + 1)) x.1) : CntAt D i (ms ++ [x]) (insA x.1 v m):=fun p => by
  rw [look7,List.map_append]
  have hp:=h p
  by_cases e : x.1 = p
  · subst e;rw [if_pos rfl,hv];simp
  · rw [if_neg e,hp]
    simp only [List.map_cons,List.map_nil,List.mem_append,List.mem_singleton,Ne.symm e,or_false]
theorem cnt_end {D : List FScore} {i : Nat} {m : List (Int × Int)} {x : FScore} (et : D.take (i + 1) = D.take i ++ [x]) (hok : SheetOk x.sh) (hm : IsMem x.sh (memS x.sh)) (h : CntAt D i (memS x.sh) m) (p : Int) : (lookA p m).getD 0 = yelC (D.take (i + 1)) p:=by
  rw [h p]
  split
  · rfl
  · rename_i hp
    rw [et,yelC_snoc]
    have h1 : p ∉ x.sh.hs:=fun q => hp (List.mem_map.2 ⟨(p,x.sh.g.h),(hm.2 _).2 (.inl ⟨q,rfl⟩),rfl⟩)
    have h2 : p ∉ x.sh.asn:=fun q => hp (List.mem_map.2 ⟨(p,x.sh.g.a),(hm.2 _).2 (.inr ⟨q,rfl⟩),rfl⟩)
    rw [cardsF_none hok h1 h2]
    simp
theorem cnt_at {D : List FScore} {i : Nat} {ms r m : List (Int × Int)} {x : Int × Int} (hp : (ms ++ x :: r).Pairwise fun a b => a.1 < b.1) (h : CntAt D i ms m) : (lookA x.1 m).getD 0 = yelC (D.take i) x.1:=by
  rw [h x.1,if_neg]
  intro hm
  obtain ⟨y,hy,e⟩:=List.mem_map.1 hm
  have:=(List.pairwise_append.1 hp).2.2 y hy x List.mem_cons_self
  omega
theorem idx_next {ds : List (Fsh × FScore)} {club : Int} : (idx7 (fun x => playsB club x.2) ds 0 = -1 ∧ nextC (ds.map (·.2)) club = none) ∨ ∃ j : Nat,j < ds.length ∧ idx7 (fun x => playsB club x.2) ds 0 = (j : Int) ∧ nextC (ds.map (·.2)) club = some (ds.getD j sc0).2:=by
  have go : ∀ (l : List (Fsh × FScore)) (k : Nat),(idx7 (fun x => playsB club x.2) l k = -1 ∧ nextC (l.map (·.2)) club = none) ∨ ∃ j : Nat,j < l.length ∧ idx7 (fun x => playsB club x.2) l k = ((k + j : Nat) : Int) ∧ nextC (l.map (·.2)) club = some (l.getD j sc0).2:=by
    intro l
    induction l with
    | nil => intro k;exact .inl ⟨rfl,by unfold nextC;rfl⟩
    | cons x r ih =>
      intro k
      unfold idx7 nextC
      rw [List.map_cons,List.find?_cons]
      show ((if playsB club x.2 = true then (k : Int) else idx7 (fun x => playsB club x.2) r (k + 1)) = -1 ∧ _) ∨ _
      cases hb : playsB club x.2 with
      | true =>
        have hb' : decide (x.2.sh.g.h = club ∨ x.2.sh.g.a = club) = true:=hb
        refine .inr ⟨0,by simp,by simp [hb],?_⟩
        rw [hb'];rfl
      | false =>
        have hb' : decide (x.2.sh.g.h = club ∨ x.2.sh.g.a = club) = false:=hb
        rw [hb']
        rcases ih (k + 1) with ⟨e1,e2⟩|⟨j,e1,e2,e3⟩
        · refine .inl ⟨by simpa using e1,?_⟩
          unfold nextC at e2
          exact e2
        · refine .inr ⟨j + 1,by simp;omega,?_,?_⟩
          · simp only [Bool.false_eq_true,if_false]
            rw [e2];congr 1;omega
          · unfold nextC at e3
            simpa using e3
  rcases go ds 0 with h|⟨j,h1,h2,h3⟩
  · exact .inl h
  · exact .inr ⟨j,h1,by rw [h2];congr 1;omega,h3⟩
theorem suspOne_no {pre post : List FScore} {x : FScore} {m : Int × Int} (h : ¬ Earn (yelC pre m.1) (cardsF x.sh m.1).1 (cardsF x.sh m.1).2) : suspOne pre post x m = []:=by unfold suspOne;rw [if_neg h]
theorem suspOne_none {pre post : List FScore} {x : FScore} {m : Int × Int} (h : nextC post m.2 = none) : suspOne pre post x m = []:=by unfold suspOne;rw [h];split <;> rfl
theorem suspOne_yes {pre post : List FScore} {x : FScore} {m : Int × Int} {z : FScore} (he : Earn (yelC pre m.1) (cardsF x.sh m.1).1 (cardsF x.sh m.1).2) (h : nextC post m.2 = some z) : suspOne pre post x m = [⟨m.1,m.2,z.sh.g⟩]:=by unfold suspOne;rw [h,if_pos he]
theorem suspAt_len {D : List FScore} (hm : ∀ x ∈ D,SheetOk x.sh ∧ IsMem x.sh (memS x.sh)) {i : Nat} (hi : i < D.length) : (suspAt D i).length ≤ 80:=by
  unfold suspAt
  have hx : D.getD i score0 ∈ D:=mem7 score0 hi
  obtain ⟨h1,h2⟩:=hm _ hx
  exact Nat.le_trans (flatMap_len1 _ (suspOne_len _ _ _) _) (memS_len h1 h2)
theorem suspN_len {D : List FScore} (hm : ∀ x ∈ D,SheetOk x.sh ∧ IsMem x.sh (memS x.sh)) : ∀ {i : Nat},i ≤ D.length → (suspN D i).length ≤ 80 * i
  | 0,_ => by unfold suspN;simp
  | i + 1,hi => by
    rw [suspN_succ,List.length_append]
    have:=suspN_len hm (i:=i) (by omega)
    have:=suspAt_len hm (i:=i) (by omega)
    omega
theorem suspN_0 (D : List FScore) : suspN D 0 = []:=by unfold suspN;rfl
theorem yelC_0 (p : Int) : yelC [] p = 0:=by unfold yelC;rfl
theorem isMem_of {x : FSheet} (hok : SheetOk x) : IsMem x (memS x):=by
  obtain ⟨ys,hp,hs⟩ : ∃ ys,ys.Perm (memU x) ∧ ys.Pairwise fun a b => a.1 ≤ b.1 :=
    ⟨(memU x).mergeSort fun a b => decide (a.1 ≤ b.1),List.mergeSort_perm _ _,(List.pairwise_mergeSort (le:=fun a b : Int × Int => decide (a.1 ≤ b.1)) (fun a b c h1 h2 => by simp at *;omega) (fun a b => by simp;omega) _).imp fun {a b} q => by simpa using q⟩
  exact (sorted_mem hok hp hs).here
theorem Suspensions_c (h : Ro) (hG : PowG h) (A : Option Addr) (n c : Nat) (l : List (Fsh × Fct)) (hx : FactsAt h A n l) (hn6 : n ≤ 65536) (season comp : Int) : Res Tryz.prog 6 #[.slice A n c,.int .i64 season,.int .i64 comp] h (fun u h' => ∃ A' c',u = .slice A' (suspC (decC (fcs l) season comp)).length c' ∧ SlOf encSu 6 h' A' (suspC (decC (fcs l) season comp)).length (suspC (decC (fcs l) season comp)) ∧ (suspC (decC (fcs l) season comp)).length ≤ 10000000):=by
  refine Res_intro (args:=[_,_,_]) ts_ok Go.Proofs.Tryz.func6 rfl rfl fun w0 X0 => ?_
  have h32:=In32_factsX hx
  have hde:=fun h' (hl : Le h h') => decided_c h' (hG.le hl) A n c l (hx.le hl) season comp
  generalize fcs l = L at *
  clear hx
  repeat' (first|apply GO_seq|apply GO_block|apply GO_region|apply GOl_nil|(apply GOl_pv;(iterate 3 exact rfl))|(apply GOl_to;(iterate 3 exact rfl);(first|(apply OpTo_res;exact rfl;exact has17;exact hde _ (by first|exact Le.refl _|assumption|(repeat (first|assumption|(apply Le.trans;assumption))));rintro w1 h1 hle1 ⟨A3,c3,ds,rfl,hsl,hat,hdec,hdn,hnc⟩;skip)|(apply OpTo_makeMap ekN ekN;intro bm;skip))))
  all_goals (try (exfalso;omega))
  rw [← decC_of hdec]
  clear hde
  obtain ⟨D,hD⟩ : ∃ D,D = ds.map (·.2):=⟨_,rfl⟩
  rw [← hD] at hdec ⊢
  have hDl : D.length = ds.length:=by rw [hD,List.length_map]
  have hok : ∀ x ∈ D,SheetOk x.sh ∧ IsMem x.sh (memS x.sh):=fun x hx => ⟨(hdec.ok h32 hx).sheet,isMem_of (hdec.ok h32 hx).sheet⟩
  have hK:=KN
  refine GO_nilS 30 6 ?_
  refine GO_loopT (X:=Nat × List FSusp × Option Addr × Nat × List (Int × Int) × Ro) (fun x => x.1 ≤ ds.length ∧ Le h1 x.2.2.2.2.2 ∧ x.2.1 = suspN D x.1 ∧ ∀ p,(lookA p x.2.2.2.2.1).getD 0 = yelC (D.take x.1) p) (fun x => ds.length - x.1)
    (fun x => [(24,.int .i64 x.1),(23,.int .i64 ds.length),(22,.slice A3 ds.length c3),(7,.slice A3 ds.length c3),(8,.map (some bm)),(6,.slice x.2.2.1 x.2.1.length x.2.2.2.1)])
    (fun x => [OwnS 30 6 (.slice x.2.2.1 x.2.1.length x.2.2.2.1) x.2.1.length (x.2.1.flatMap encSu),MapA ekN ekN bm x.2.2.2.2.1]) (fun x => x.2.2.2.2.2) (0,[],none,0,[],h1) ⟨by dsimp only;omega,Le.refl _,by rw [suspN_0],fun p => by rw [List.take_zero,yelC_0];rfl⟩ QS QT rfl ?_
  rintro ⟨i,out,A4,c4,m,hh⟩ ⟨hi,hle,ho,hm⟩ ih
  dsimp only at hi hle ho hm ih ⊢
  have hol:=suspN_len hok (i:=i) (by omega)
  rw [← ho] at hol
  by_cases hin : i < ds.length
  · have a1:=hsl.addrD hin
    have c1:=(hsl.cellsD sc0 hin).le hle
    have hsl':=hsl.le hle
    have hax:=(hat _ (mem7 sc0 hin)).le hle
    have hDx : D.getD i score0 = (ds.getD i sc0).2:=by rw [hD];simp [List.getD,List.getElem?_eq_getElem hin]
    have et:=take7 score0 (xs:=D) rfl (show i < D.length by omega)
    have hoX:=hok _ (mem7 score0 (show i < D.length by omega))
    have hsA : suspN D (i + 1) = suspN D i ++ (memS (D.getD i score0).sh).flatMap (suspOne (D.take i) (D.drop (i + 1)) (D.getD i score0)):=suspN_succ D i
    rw [hDx] at et hoX hsA
    have hpost : D.drop (i + 1) = (ds.drop (i + 1)).map (·.2):=by rw [hD,List.map_drop]
    have hlow:=hsl'.low (lo:=i + 1) (c:=c3) (by omega) hnc
    generalize ds.getD i sc0 = x at *
    obtain ⟨s,x⟩:=x
    dsimp only at et hoX hsA hax
    have hxs:=hax.1
    have hlc : x.sh.hc.length ≤ 1000 ∧ x.sh.ac.length ≤ 1000:=by
      have h1:=hoX.1.2.2.2.2.2.2.2.1.1
      have h2:=hoX.1.2.2.2.2.2.2.2.2.1.1
      omega
    have hpw:=hoX.2.1
    have hml:=memS_len hoX.1 hoX.2
    repeat' (first|apply GO_seq|apply GO_skip|apply GO_block|apply GO_region|apply GOl_nil|(apply GOl_to;(iterate 3 exact rfl);apply OpTo_alloc (e:=36);exact rfl;intro b10)|(apply GOl_pv;(iterate 3 exact rfl))|(apply GOl_load;exact rfl;exact Ld_blk rfl QM rfl;exact rfl;exact rfl)|(apply GOl_ov;exact rfl;exact rfl;(first|(apply OV_idxS (j:=i);(iterate 5 exact rfl);exact a1;(with_reducible exact rfl);omega)|(apply OV_load;exact rfl;exact Lv_ro rfl c1 rfl));exact QA)|(apply GOl_to;(iterate 3 exact rfl);(first|(apply OpTo_store;(iterate 3 exact rfl);exact QR;(iterate 3 exact rfl);skip)|(apply OpTo_callP;exact rfl;exact has18;exact shownE_c _ s x.sh (hxs.le (by first|exact Le.refl _|assumption|(repeat (first|assumption|(apply Le.trans;assumption))))) hlc;exact QT;rintro vs Es2 h2 hle2 ⟨bg,mg,rfl,rfl,hmg⟩;skip)|(apply OpTo_res;exact rfl;exact has19;exact members_c _ s x.sh (hxs.le (by first|exact Le.refl _|assumption|(repeat (first|assumption|(apply Le.trans;assumption))))) hoX.1;rintro vm h3 hle3 ⟨A5,c5,rfl,hms,_⟩;skip)))|(apply GO_cond;exact rfl;all_goals (intro hc;try simp only [hcS,reduceCtorEq] at hc;try (exfalso;omega))))
    all_goals (try (exfalso;omega))
    obtain ⟨ms,hmsE⟩ : ∃ ms,ms = memS x.sh:=⟨_,rfl⟩
    have hend:=fun q (hq : CntAt D i (memS x.sh) q) => cnt_end (m:=q) et hoX.1 hoX.2 hq
    rw [← hmsE] at hms hsA hpw hml hend ⊢
    have hlei : Le hh h3:=(by first|exact Le.refl _|assumption|(repeat (first|assumption|(apply Le.trans;assumption))))
    have hsl3:=hsl'.le hlei
    have hlow3:=hlow.le hlei
    refine GO_loopT (X:=Nat × List FSusp × Option Addr × Nat × List (Int × Int) × Ro) (fun y => y.1 ≤ ms.length ∧ Le h3 y.2.2.2.2.2 ∧ y.2.1 = suspN D i ++ (ms.take y.1).flatMap (suspOne (D.take i) (D.drop (i + 1)) x) ∧ y.2.1.length ≤ out.length + y.1 ∧ CntAt D i (ms.take y.1) y.2.2.2.2.1) (fun y => ms.length - y.1)
      (fun y => [(36,.int .i64 y.1),(35,.int .i64 ms.length),(34,.slice A5 ms.length c5),(11,.map (some bg)),(9,.int .i64 i),(24,.int .i64 i),(23,.int .i64 ds.length),(22,.slice A3 ds.length c3),(7,.slice A3 ds.length c3),(8,.map (some bm)),(6,.slice y.2.2.1 y.2.1.length y.2.2.2.1)])
      (fun y => [OwnS 30 6 (.slice y.2.2.1 y.2.1.length y.2.2.2.1) y.2.1.length (y.2.1.flatMap encSu),MapA ekN ekN bm y.2.2.2.2.1,MapA ekN evCd bg mg]) (fun y => y.2.2.2.2.2) (0,out,A4,c4,m,h3) ⟨by dsimp only;omega,Le.refl _,by rw [ho];simp,by dsimp only;omega,by rw [List.take_zero];exact cnt_zero hm⟩ QS QT rfl ?_
    rintro ⟨j,ou,A6,c6,mc,h4⟩ ⟨hj,hle4,ho4,hol4,hcn⟩ ih2
    dsimp only at hj hle4 ho4 hol4 hcn ih2 ⊢
    by_cases hjn : j < ms.length
    · have a2:=hms.addrD hjn
      have c2:=(hms.cellsD m0 hjn).le hle4
      have et2:=take7 m0 (xs:=ms) rfl hjn
      have hsp:=take_split m0 (l:=ms) rfl hjn
      rw [hsp] at hpw
      generalize ms.getD j m0 = y at *
      obtain ⟨p,cl⟩:=y
      have hq1:=hmg p
      have hq2:=cnt_at hpw hcn
      have hst:=fun v (hv : v = yelC (D.take (i + 1)) p) => cnt_step (x:=(p,cl)) (v:=v) hcn hv
      have hy:=yelC_snoc (D.take i) x p
      rw [← et] at hy
      have hb1:=yelC_bd (D.take i) p
      have hb2:=cardsF_bd x.sh p
      have hno:=suspOne_no (pre:=D.take i) (post:=D.drop (i + 1)) (x:=x) (m:=(p,cl))
      have hnn:=suspOne_none (pre:=D.take i) (post:=D.drop (i + 1)) (x:=x) (m:=(p,cl))
      have hye:=fun z => suspOne_yes (pre:=D.take i) (post:=D.drop (i + 1)) (x:=x) (m:=(p,cl)) (z:=z)
      have hfm : (ms.take (j + 1)).flatMap (suspOne (D.take i) (D.drop (i + 1)) x) = (ms.take j).flatMap (suspOne (D.take i) (D.drop (i + 1)) x) ++ suspOne (D.take i) (D.drop (i + 1)) x (p,cl):=by rw [et2,List.flatMap_append];simp
      rw [List.length_take] at hb1
      dsimp only at hq2 hst hno hnn hye c2
      rw [hpost] at hno hnn hye hfm
      generalize cardsF x.sh p = q at *
      generalize yelC (D.take (i + 1)) p = y1 at *
      generalize yelC (D.take i) p = y0 at *
      obtain ⟨qy,qr⟩:=q
      dsimp only at hq1 hb2 hno hnn hye hy
      have hl2 : (lookA p (insA p (y0 + qy) mc)).getD 0 = y0 + qy:=by rw [look7,if_pos rfl];rfl
      have hst1:=hst (y0 + qy) hy.symm
      have hcont:=fun ou' A' c' h' (hl : Le h4 h') (he : ou' = ou ++ suspOne (D.take i) ((ds.drop (i + 1)).map (·.2)) x (p,cl)) (hl2 : ou'.length ≤ ou.length + 1) => ih2 (j + 1,ou',A',c',insA p (y0 + qy) mc,h') ⟨by dsimp only;omega,hle4.trans hl,by dsimp only;rw [he,ho4,hpost,hfm,List.append_assoc],by dsimp only;omega,by dsimp only;rw [et2];exact hst1⟩ (by dsimp only;omega)
      dsimp only at hcont
      have hix : ∀ (h' : Ro) (b13 : Nat),Le h4 h' → CellsAt h' ⟨b13,0,none⟩ (encM2 (p,cl)) → Val Tryz.prog 20 #[.slice (sliceA A3 c3 (i + 1) 15) (ds.length - (i + 1)) (c3 - (i + 1)),.func (.func 21) #[] #[.pointer (some ⟨b13,0,none⟩)]] h' (.int .i64 (idx7 (fun x => playsB cl x.2) (ds.drop (i + 1)) 0)):=fun h' b13 hl hc13 =>
        idxFS_c h' _ _ _ _ (hlow3.le (hle4.trans hl)) (by omega) 21 [] [.pointer (some ⟨b13,0,none⟩)] (fun x => playsB cl x.2) has21 (fun x _ => susp1_c h' x b13 (p,cl) hc13)
      rcases idx_next (ds:=ds.drop (i + 1)) (club:=cl) with ⟨e1,e2⟩|⟨nx,e0,e1,e2⟩
      · rw [e1] at hix
        have hsu:=hnn e2
        have hou : ou = ou ++ suspOne (D.take i) ((ds.drop (i + 1)).map (·.2)) x (p,cl):=by rw [hsu,List.append_nil]
        clear hno hye hnn
        cases qr
        all_goals (repeat' (first|apply GO_seq|apply GO_skip|apply GO_inBlock|apply GO_block|apply GO_region|apply GOl_nil|(apply GO_exit;exact rfl)|(apply GOl_to;(iterate 3 exact rfl);apply OpTo_alloc (e:=76);exact rfl;intro b13)|(apply GOl_to;(iterate 3 exact rfl);apply OpTo_alloc (e:=78);exact rfl;intro b14)|(apply GOl_ov;exact rfl;exact rfl;(apply OV_lookD (ek:=ekN) (ev:=evCd) (z0:=(0,false)) (key:=p) (b:=bg) (m:=mg) hK;(iterate 6 exact rfl);exact hq1);focus ((repeat' (first|exact trivial|apply And.intro|exact List.Mem.head _|apply List.Mem.tail));done))|(apply GOl_ov;exact rfl;exact rfl;(apply OV_lookD (ek:=ekN) (ev:=ekN) (z0:=(0 : Int)) (key:=p) (b:=bm) (m:=mc) hK;(iterate 6 exact rfl);exact hq2);focus ((repeat' (first|exact trivial|apply And.intro|exact List.Mem.head _|apply List.Mem.tail));done))|(apply GOl_ov;exact rfl;exact rfl;(apply OV_lookD (ek:=ekN) (ev:=ekN) (z0:=(0 : Int)) (key:=p) (b:=bm) (m:=insA p (y0 + qy) mc) hK;(iterate 6 exact rfl);exact hl2);focus ((repeat' (first|exact trivial|apply And.intro|exact List.Mem.head _|apply List.Mem.tail));done))|(apply GOl_ov;exact rfl;exact rfl;(first|(apply OV_quoI;(iterate 3 exact rfl);omega;omega));exact QA)|(apply GOl_unwanted;exact rfl;exact rfl)|(apply GOl_add;(iterate 3 exact rfl);omega;exact rfl;exact rfl)|(apply GOl_pv;(iterate 3 exact rfl))|(apply GOl_load;exact rfl;exact Ld_blk rfl QM rfl;exact rfl;exact rfl)|(apply GOl_ov;exact rfl;exact rfl;(first|(apply OV_idxS (j:=j);(iterate 5 exact rfl);exact a2;(with_reducible exact rfl);omega)|(apply OV_load;exact rfl;exact Lv_ro rfl c2 rfl)|(apply OV_sliceLo (lo:=i + 1) (n:=ds.length) (c:=c3);(iterate 5 exact rfl);omega;omega));exact QA)|(apply GOl_to;(iterate 3 exact rfl);(first|(apply OpTo_store;(iterate 3 exact rfl);exact QR;(iterate 3 exact rfl);skip)|(apply OpTo_mapUpdate (ek:=ekN) (ev:=ekN) (b:=bm) (m:=mc) (key:=p) (u:=y0 + qy) hK;(iterate 6 exact rfl);exact QR;skip)|(refine OpTo_relB (b:=b13) (e:=76) QK ?_;intro h5 hle5 hc13;apply OpTo_val;exact rfl;exact has20;exact hix _ b13 (by first|exact Le.refl _|assumption|(repeat (first|assumption|(apply Le.trans;assumption)))) hc13;skip)))|(apply GO_cond;exact rfl;all_goals (intro hc;try simp only [hcS,reduceCtorEq] at hc;try (exfalso;omega)))))
        all_goals first
          | (exfalso;omega)
          | (exfalso;simp at hc;done)
          | (have h6:=hcont _ A6 c6 _ hle5 hou (by omega)
             refine GO_fit QS QT (h6))
          | (have h6:=hcont _ A6 c6 _ (Le.refl _) hou (by omega)
             refine GO_fit QS QT (h6))
      · rw [e1] at hix
        rw [List.length_drop] at e0
        have hnxt:=hsl3.addrD (show i + 1 + nx < ds.length by omega)
        have cN : CellsAt h4 ((addrD A3).add ((i + 1 + nx) * ty36.size)) (encSc (ds.getD (i + 1 + nx) sc0)):=(hsl3.cellsD sc0 (show i + 1 + nx < ds.length by omega)).le hle4
        have hgz : (ds.drop (i + 1)).getD nx sc0 = ds.getD (i + 1 + nx) sc0:=by simp [List.getD]
        rw [hgz] at e2
        generalize ds.getD (i + 1 + nx) sc0 = z at *
        clear hnn hgz
        by_cases hE : Earn y0 qy qr
        · have hsu:=hye _ hE e2
          clear hno hye
          cases qr
          case' false => have hE2:=hE.resolve_left (by simp)
          all_goals (repeat' (first|apply GO_seq|apply GO_skip|apply GO_inBlock|apply GO_block|apply GO_region|apply GOl_nil|(apply GOl_to;(iterate 3 exact rfl);apply OpTo_alloc (e:=76);exact rfl;intro b13)|(apply GOl_to;(iterate 3 exact rfl);apply OpTo_alloc (e:=78);exact rfl;intro b14)|(apply GOl_ov;exact rfl;exact rfl;(apply OV_lookD (ek:=ekN) (ev:=evCd) (z0:=(0,false)) (key:=p) (b:=bg) (m:=mg) hK;(iterate 6 exact rfl);exact hq1);focus ((repeat' (first|exact trivial|apply And.intro|exact List.Mem.head _|apply List.Mem.tail));done))|(apply GOl_ov;exact rfl;exact rfl;(apply OV_lookD (ek:=ekN) (ev:=ekN) (z0:=(0 : Int)) (key:=p) (b:=bm) (m:=mc) hK;(iterate 6 exact rfl);exact hq2);focus ((repeat' (first|exact trivial|apply And.intro|exact List.Mem.head _|apply List.Mem.tail));done))|(apply GOl_ov;exact rfl;exact rfl;(apply OV_lookD (ek:=ekN) (ev:=ekN) (z0:=(0 : Int)) (key:=p) (b:=bm) (m:=insA p (y0 + qy) mc) hK;(iterate 6 exact rfl);exact hl2);focus ((repeat' (first|exact trivial|apply And.intro|exact List.Mem.head _|apply List.Mem.tail));done))|(apply GOl_ov;exact rfl;exact rfl;(first|(apply OV_quoI;(iterate 3 exact rfl);omega;omega));exact QA)|(apply GOl_unwanted;exact rfl;exact rfl)|(apply GOl_add;(iterate 3 exact rfl);omega;exact rfl;exact rfl)|(apply GOl_pv;(iterate 3 exact rfl))|(apply GOl_load;exact rfl;exact Ld_blk rfl QM rfl;exact rfl;exact rfl)|(apply GOl_ov;exact rfl;exact rfl;(first|(apply OV_idxS (j:=j);(iterate 5 exact rfl);exact a2;(with_reducible exact rfl);omega)|(apply OV_load;exact rfl;exact Lv_ro rfl c2 rfl)|(apply OV_sliceLo (lo:=i + 1) (n:=ds.length) (c:=c3);(iterate 5 exact rfl);omega;omega));exact QA)|(apply GOl_to;(iterate 3 exact rfl);(first|(apply OpTo_store;(iterate 3 exact rfl);exact QR;(iterate 3 exact rfl);skip)|(apply OpTo_mapUpdate (ek:=ekN) (ev:=ekN) (b:=bm) (m:=mc) (key:=p) (u:=y0 + qy) hK;(iterate 6 exact rfl);exact QR;skip)|(refine OpTo_relB (b:=b13) (e:=76) QK ?_;intro h5 hle5 hc13;apply OpTo_val;exact rfl;exact has20;exact hix _ b13 (by first|exact Le.refl _|assumption|(repeat (first|assumption|(apply Le.trans;assumption)))) hc13;skip)))|(apply GO_drawp (n:=16) [0,1,2,3,4,5,6,7,8,9,10,11,12,13,14,15,16,17] [(0,0),(1,0),(2,0),(3,0),(4,0),(5,0),(6,0),(7,0),(8,0),(9,0),(10,0),(11,0),(12,0),(13,0),(14,0),(15,1),(16,1),(17,0)];kernel_rfl)|(apply GP_add;exact rfl;kernel_rfl;(iterate 5 exact rfl);omega)|(apply GP_pv;exact rfl;kernel_rfl;(iterate 3 exact rfl))|(apply GP_ov;exact rfl;kernel_rfl;exact rfl;exact rfl;(first|(apply OV_idxS (j:=i + 1 + nx) (n:=ds.length) (A:=A3);(iterate 5 exact rfl);exact hnxt;omega;omega)|(apply OV_load;exact rfl;apply Lv_roF2;exact rfl;exact cN.le (by first|exact Le.refl _|assumption|(repeat (first|assumption|(apply Le.trans;assumption))));exact rfl)|(apply OV_load;exact rfl;exact Lv_roF rfl hc13 rfl));exact QA)|(apply GP_real;exact rfl;kernel_rfl;(iterate 3 exact rfl);(first|(apply OpTo_buildSliceS (enc:=encSu) (n:=1) [⟨p,cl,z.2.sh.g⟩];(iterate 3 exact rfl);exact List.cons_ne_nil _ _;(iterate 4 exact rfl);exact fun _ => rfl;exact rfl;exact rfl;intro b9 h9 hle9 hs9;refine ⟨hle9,QN,?_⟩)|(apply OpTo_appendS (enc:=encSu) (xs:=ou);(iterate 7 exact rfl);exact hs9;exact fun _ => rfl;exact fun x => allOne_ok rfl;intro v1;exact QR;omega;exact rfl;intro A9 c9;refine ⟨Le.refl _,QN,?_⟩)))|(apply GP_done;kernel_rfl;exact rfl)|(apply GO_cond;exact rfl;all_goals (intro hc;try simp only [hcS,reduceCtorEq] at hc;try (exfalso;omega)))))
          all_goals first
            | (exfalso;omega)
            | (exfalso;simp at hc;done)
            | (have h6:=hcont (ou ++ [⟨p,cl,z.2.sh.g⟩]) A9 c9 h9 (hle5.trans hle9) (by rw [hsu]) (by simp)
               rw [List.length_append] at h6
               refine GO_fit QS QT (h6))
        · have hsu:=hno hE
          have hou : ou = ou ++ suspOne (D.take i) ((ds.drop (i + 1)).map (·.2)) x (p,cl):=by rw [hsu,List.append_nil]
          clear hno hye
          cases qr
          case' true => exact absurd (.inl rfl) hE
          have hE2 : (y0 + qy) / 5 = y0 / 5:=Classical.byContradiction fun w => hE (.inr w)
          repeat' (first|apply GO_seq|apply GO_skip|apply GO_block|apply GO_region|apply GOl_nil|(apply GO_exit;exact rfl)|(apply GOl_to;(iterate 3 exact rfl);apply OpTo_alloc (e:=76);exact rfl;intro b13)|(apply GOl_to;(iterate 3 exact rfl);apply OpTo_alloc (e:=78);exact rfl;intro b14)|(apply GOl_ov;exact rfl;exact rfl;(apply OV_lookD (ek:=ekN) (ev:=evCd) (z0:=(0,false)) (key:=p) (b:=bg) (m:=mg) hK;(iterate 6 exact rfl);exact hq1);focus ((repeat' (first|exact trivial|apply And.intro|exact List.Mem.head _|apply List.Mem.tail));done))|(apply GOl_ov;exact rfl;exact rfl;(apply OV_lookD (ek:=ekN) (ev:=ekN) (z0:=(0 : Int)) (key:=p) (b:=bm) (m:=mc) hK;(iterate 6 exact rfl);exact hq2);focus ((repeat' (first|exact trivial|apply And.intro|exact List.Mem.head _|apply List.Mem.tail));done))|(apply GOl_ov;exact rfl;exact rfl;(apply OV_lookD (ek:=ekN) (ev:=ekN) (z0:=(0 : Int)) (key:=p) (b:=bm) (m:=insA p (y0 + qy) mc) hK;(iterate 6 exact rfl);exact hl2);focus ((repeat' (first|exact trivial|apply And.intro|exact List.Mem.head _|apply List.Mem.tail));done))|(apply GOl_ov;exact rfl;exact rfl;(first|(apply OV_quoI;(iterate 3 exact rfl);omega;omega));exact QA)|(apply GOl_add;(iterate 3 exact rfl);omega;exact rfl;exact rfl)|(apply GOl_pv;(iterate 3 exact rfl))|(apply GOl_load;exact rfl;exact Ld_blk rfl QM rfl;exact rfl;exact rfl)|(apply GOl_ov;exact rfl;exact rfl;(first|(apply OV_idxS (j:=j);(iterate 5 exact rfl);exact a2;(with_reducible exact rfl);omega)|(apply OV_load;exact rfl;exact Lv_ro rfl c2 rfl));exact QA)|(apply GOl_to;(iterate 3 exact rfl);(first|(apply OpTo_store;(iterate 3 exact rfl);exact QR;(iterate 3 exact rfl);skip)|(apply OpTo_mapUpdate (ek:=ekN) (ev:=ekN) (b:=bm) (m:=mc) (key:=p) (u:=y0 + qy) hK;(iterate 6 exact rfl);exact QR;skip)))|(apply GO_cond;exact rfl;all_goals (intro hc;try simp only [hcS,reduceCtorEq] at hc;try (exfalso;omega))))
          all_goals first
            | (exfalso;omega)
            | (exfalso;simp at hc;done)
            | (have h6:=hcont _ A6 c6 _ hle5 hou (by omega)
               refine GO_fit QS QT (h6))
            | (have h6:=hcont _ A6 c6 _ (Le.refl _) hou (by omega)
               refine GO_fit QS QT (h6))
    · rw [show ms.take j = ms from List.take_of_length_le (by omega)] at ho4 hcn
      rw [← hsA] at ho4
      have hcm:=hend _ hcn
      have h6:=ih (i + 1,ou,A6,c6,mc,h4) ⟨by dsimp only;omega,(by first|exact Le.refl _|assumption|(repeat (first|assumption|(apply Le.trans;assumption)))),ho4,hcm⟩ (by dsimp only;omega)
      dsimp only at h6
      clear ih ih2
      repeat' (first|apply GO_seq|apply GO_inBlock|apply GO_region|apply GOl_nil|(apply GO_exit;exact rfl)|(apply GOl_add;(iterate 3 exact rfl);omega;exact rfl;exact rfl)|(apply GOl_pv;(iterate 3 exact rfl))|(apply GO_cond;exact rfl;all_goals (intro hc;try simp only [hcS,reduceCtorEq] at hc;try (exfalso;omega))))
      all_goals first
        | (exfalso;omega)
        | (refine GO_fit QS QT (h6))
  · have hil : i = ds.length:=by omega
    have hsc : suspC D = out:=by
      rw [ho,hil,← hDl]
      unfold suspC;rfl
    rw [hsc]
    clear ih
    refine GO_relC (enc:=encSu) (e:=30) (sz:=6) (n:=out.length) (xs:=out) (fun _ => rfl) rfl QK ?_
    intro A7 c7 h7 hle7 e7 hnc7 hs7
    cases e7
    repeat' (first|apply GO_seq|apply GO_region|apply GOl_nil|(apply GO_exit;exact rfl)|(apply GOl_pv;(iterate 3 exact rfl))|(apply GO_cond;exact rfl;all_goals (intro hc;try simp only [hcS,reduceCtorEq] at hc;try (exfalso;omega))))
    all_goals first
      | (exfalso;omega)
      | (exact GO_retR1 rfl rfl rfl ⟨A4,c4,rfl,hs7,by omega⟩)
end Go.Hw
set_option linter.unusedVariables false
set_option linter.unusedSimpArgs false
set_option maxRecDepth 100000
set_option maxHeartbeats 4000000
namespace Go.Hw
open Go
attribute [local irreducible] GO GOl GDp Val Fn Res CellsAt ValE Blk OwnS MapA OwnPf Has Yl RngA
open Go.Proofs (Tryz.prog)
def MoveOk (player : Int) (f : Fct) : Prop:=f.kind = 6 ∧ f.mP = player ∧ FctOk f
open Classical in
noncomputable def movesE (player : Int) (l : List (Fsh × Fct)) : List (Fsh × Fct):=l.filter fun p => decide (MoveOk player p.2)
theorem movesE_app (pl : Int) (a b : List (Fsh × Fct)) : movesE pl (a ++ b) = movesE pl a ++ movesE pl b:=by unfold movesE;rw [List.filter_append]
theorem movesE_yes {pl : Int} {p : Fsh × Fct} (h : MoveOk pl p.2) : movesE pl [p] = [p]:=by unfold movesE;simp [h]
theorem movesE_no {pl : Int} {p : Fsh × Fct} (h : ¬ MoveOk pl p.2) : movesE pl [p] = []:=by unfold movesE;simp [h]
open Classical in
theorem movesE_mem {pl : Int} {l : List (Fsh × Fct)} {x : Fsh × Fct} : x ∈ movesE pl l ↔ x ∈ l ∧ MoveOk pl x.2:=by
  unfold movesE;rw [List.mem_filter,decide_eq_true_eq]
def takeE (day : Int) (z x : Fsh × Fct) : Fsh × Fct:=if x.2.day ≤ day ∧ (z.2.day < x.2.day ∨ (x.2.day = z.2.day ∧ 0 < cmpF x.2 z.2)) then x else z
def last0 : Fct:={ fct0 with day:=-1,mTo:=-1 }
def lastE (day : Int) (l : List (Fsh × Fct)) : Fsh × Fct:=l.foldl (takeE day) (fsh0,last0)
theorem lastE_snoc (day : Int) (l : List (Fsh × Fct)) (x : Fsh × Fct) : lastE day (l ++ [x]) = takeE day (lastE day l) x:=by unfold lastE;rw [List.foldl_append];rfl
theorem lastE_in (day : Int) (l : List (Fsh × Fct)) : lastE day l = (fsh0,last0) ∨ lastE day l ∈ l:=by
  refine snoc_ind (P:=fun l => lastE day l = (fsh0,last0) ∨ lastE day l ∈ l) (.inl rfl) (fun l x ih => ?_) l
  rw [lastE_snoc]
  unfold takeE
  split
  · exact .inr (by simp)
  · exact ih.imp id fun h => by simp [h]
theorem FctOk.day0 {f : Fct} (h : FctOk f) : 0 ≤ f.day:=h.1.1
theorem movesE_c (h : Ro) (A : Option Addr) (n c : Nat) (player : Int) : Res Tryz.prog 27 #[.slice A n c,.int .i64 player] h (fun u h' => ∃ bx bp,u = .func (.func 48) #[] #[.pointer (some ⟨bx,0,none⟩),.pointer (some ⟨bp,0,none⟩)] ∧ CellsAt h' ⟨bx,0,none⟩ [.slice A n c] ∧ CellsAt h' ⟨bp,0,none⟩ [.int .i64 player]):=by
  refine Res_intro (args:=[_,_]) ts_ok Go.Proofs.Tryz.func27 rfl rfl fun w0 X0 => ?_
  repeat' (first|apply GO_seq|apply GO_region|apply GOl_nil|(apply GOl_pv;(iterate 3 exact rfl))|(apply GOl_to;(iterate 3 exact rfl);(first|(apply OpTo_box;exact rfl;intro b;skip))))
  refine GO_relB QK ?_
  intro h1 hle1 hc1
  refine GO_relB QK ?_
  intro h2 hle2 hc2
  (first|(apply GO_retR1;(iterate 3 exact rfl)))
  first
    | exact ⟨_,_,rfl,hc2,hc1.le hle2⟩
    | exact ⟨_,_,rfl,hc1.le hle2,hc2⟩
open Classical in
theorem movesSeq (h : Ro) (A : Option Addr) (n c : Nat) (l : List (Fsh × Fct)) (hx : FactsAt h A n l) (player : Int) (bx bp : Nat) (hb : CellsAt h ⟨bx,0,none⟩ [.slice A n c]) (hp : CellsAt h ⟨bp,0,none⟩ [.int .i64 player]) : SeqR Tryz.prog 48 [.pointer (some ⟨bx,0,none⟩),.pointer (some ⟨bp,0,none⟩)] FR (movesE player l) h:=by
  intro lid I Ix mI mIx hround Es h1 hle h0
  refine Fn_intro (args:=[_,_,_]) ts_ok Go.Proofs.Tryz.func48 rfl rfl fun w0 X0 => ?_
  have hlen:=hx.row.len
  have hn:=hx.small
  have hb1:=hb.le hle
  have hp1:=hp.le hle
  repeat' (first|apply GO_seq|apply GO_block|apply GO_region|apply GOl_nil|(apply GOl_pv;(iterate 3 exact rfl))|(apply GOl_ov;exact rfl;exact rfl;(first|(apply OV_load;exact rfl;exact Lv_ro rfl hb1 rfl));exact QA))
  refine GO_while (X:=Nat × List Asn × Ro) (fun x => x.1 ≤ n ∧ Le h1 x.2.2 ∧ I (movesE player (l.take x.1)) x.2.1 x.2.2) (fun x => n - x.1) (fun x => [(8,.int .i64 x.1),(7,.int .i64 n),(6,.slice A n c),(0,.func (.yield lid) #[] #[]),(2,.pointer (some ⟨bp,0,none⟩))])
    (fun x => x.2.1) (fun x => x.2.2) (0,Es,h1) ⟨by omega,Le.refl _,h0⟩ QS rfl rfl ?_
  rintro ⟨k,Es1,hk⟩ ⟨hkn,hlk,hI⟩ ih
  dsimp only at hkn hlk hI ih ⊢
  have hl1 : Le h hk:=hle.trans hlk
  have hp2:=hp1.le hlk
  by_cases hkn2 : k < n
  · have a1:=hx.row.addrD hkn2
    have c1:=(hx.row.cellsD p0 hkn2).le hl1
    have et:=take7 p0 (xs:=l) rfl (show k < l.length by omega)
    have hsplit:=take_split p0 (l:=l) rfl (show k < l.length by omega)
    have hfa:=hx.fat _ (mem7 p0 (show k < l.length by omega))
    generalize l.getD k p0 = p at *
    have hch:=check7_c hk p.1 p.2 (hfa.1.le hl1) hfa.2
    have hyl : MoveOk player p.2 → Yl Tryz.prog lid [factV p.1 p.2] Es1 hk fun v Es' h' => (v = .bool true ∧ I (movesE player (l.take (k + 1))) Es' h') ∨ (v = .bool false ∧ Ix (movesE player (l.take (k + 1))) Es' h'):=fun hv => by
      have e1:=movesE_yes hv
      have e2 : movesE player (l.take (k + 1)) = movesE player (l.take k) ++ [p]:=by rw [et,movesE_app,e1]
      have e3 : movesE player l = movesE player (l.take k) ++ p :: movesE player (l.drop (k + 1)):=by
        conv => lhs;rw [hsplit]
        rw [movesE_app,show p :: l.drop (k + 1) = [p] ++ l.drop (k + 1) from rfl,movesE_app,e1];rfl
      rw [e2]
      exact hround _ _ _ _ _ _ e3 hl1 rfl hI
    by_cases hv : MoveOk player p.2
    · have hv1:=hv.1
      have hv2:=hv.2.1
      rw [if_pos hv.2.2] at hch
      repeat' (first|apply GO_seq|apply GO_skip|apply GO_inBlock|apply GO_block|apply GO_region|apply GOl_nil|(apply GOl_add;(iterate 3 exact rfl);omega;exact rfl;exact rfl)|(apply GOl_pv;(iterate 3 exact rfl))|(apply GOl_load;exact rfl;exact Ld_blk rfl QM rfl;exact rfl;exact rfl)|(apply GOl_ov;exact rfl;exact rfl;(first|(apply OV_idxS (j:=k);(iterate 5 exact rfl);exact a1;(with_reducible exact rfl);omega)|(apply OV_load;exact rfl;exact Lv_ro rfl c1 rfl)|(apply OV_load;exact rfl;exact Lv_ro rfl hp2 rfl));exact QA)|(apply GOl_to;(iterate 3 exact rfl);(first|(apply OpTo_store;(iterate 3 exact rfl);exact QR;(iterate 3 exact rfl);skip)|(apply OpTo_alloc;exact rfl;intro b;skip)|(apply OpTo_val;exact rfl;exact has49;exact hch;skip)|(refine OpTo_perm (List.perm_append_comm (l₁:=[_])) ?_;apply OpTo_yield (Es0:=Es1) (Fs:=[_]);(iterate 3 exact rfl);exact hyl hv;rintro v E2 h2 hle2 (⟨rfl,hP⟩|⟨rfl,hP⟩);all_goals skip)))|(apply GO_cond;exact rfl;all_goals (intro hc;try simp only [hcS,reduceCtorEq] at hc;try (exfalso;omega)))|(apply GOl_split;exact rfl;exact rfl;all_goals (intro hc;try simp only [hcS,reduceCtorEq] at hc;try (exfalso;omega))))
      all_goals first
        | (exfalso;omega)
        | (have h3:=ih (k + 1,E2,h2) ⟨by show k + 1 ≤ n;omega,hlk.trans hle2,hP⟩ (by show n - (k + 1) < n - k;omega)
           refine GO_perm (List.perm_append_comm (l₁:=E2) (l₂:=[_])) (GO_drop .here ?_)
           exact GO_keep QS h3)
        | (refine GO_retS (rs:=[]) (vs:=[]) (Fs:=E2) rfl rfl trivial (List.sublist_append_left _ _) (.inr ⟨movesE player (l.take (k + 1)),movesE player (l.drop (k + 1)),?_,hP⟩)
           rw [← movesE_app,List.take_append_drop])
    have hno : movesE player (l.take (k + 1)) = movesE player (l.take k):=by
      rw [et,movesE_app,movesE_no hv,List.append_nil]
    by_cases hk3 : p.2.kind = 6 ∧ p.2.mP = player
    · rw [if_neg (fun h => hv ⟨hk3.1,hk3.2,h⟩)] at hch
      repeat' (first|apply GO_seq|apply GO_skip|apply GO_inBlock|apply GO_block|apply GO_region|apply GOl_nil|(apply GOl_unwanted;exact rfl;exact rfl)|(apply GOl_add;(iterate 3 exact rfl);omega;exact rfl;exact rfl)|(apply GOl_pv;(iterate 3 exact rfl))|(apply GOl_load;exact rfl;exact Ld_blk rfl QM rfl;exact rfl;exact rfl)|(apply GOl_ov;exact rfl;exact rfl;(first|(apply OV_idxS (j:=k);(iterate 5 exact rfl);exact a1;(with_reducible exact rfl);omega)|(apply OV_load;exact rfl;exact Lv_ro rfl c1 rfl)|(apply OV_load;exact rfl;exact Lv_ro rfl hp2 rfl));exact QA)|(apply GOl_to;(iterate 3 exact rfl);(first|(apply OpTo_store;(iterate 3 exact rfl);exact QR;(iterate 3 exact rfl);skip)|(apply OpTo_alloc;exact rfl;intro b;skip)|(apply OpTo_val;exact rfl;exact has49;exact hch;skip)))|(apply GO_cond;exact rfl;all_goals (intro hc;try simp only [hcS,reduceCtorEq] at hc;try (exfalso;omega)))|(apply GOl_split;exact rfl;exact rfl;all_goals (intro hc;try simp only [hcS,reduceCtorEq] at hc;try (exfalso;omega))))
      all_goals
        have h3:=ih (k + 1,Es1,hk) ⟨by show k + 1 ≤ n;omega,hlk,by show I (movesE player (l.take (k + 1))) _ _;rw [hno];exact hI⟩ (by show n - (k + 1) < n - k;omega)
        refine GO_drop .here ?_
        exact GO_keep QS h3
    · generalize (if FctOk p.2 then (0 : Int) else 70) = chv at hch
      repeat' (first|apply GO_seq|apply GO_skip|apply GO_inBlock|apply GO_block|apply GO_region|apply GOl_nil|(apply GOl_unwanted;exact rfl;exact rfl)|(apply GOl_add;(iterate 3 exact rfl);omega;exact rfl;exact rfl)|(apply GOl_pv;(iterate 3 exact rfl))|(apply GOl_load;exact rfl;exact Ld_blk rfl QM rfl;exact rfl;exact rfl)|(apply GOl_ov;exact rfl;exact rfl;(first|(apply OV_idxS (j:=k);(iterate 5 exact rfl);exact a1;(with_reducible exact rfl);omega)|(apply OV_load;exact rfl;exact Lv_ro rfl c1 rfl)|(apply OV_load;exact rfl;exact Lv_ro rfl hp2 rfl));exact QA)|(apply GOl_to;(iterate 3 exact rfl);(first|(apply OpTo_store;(iterate 3 exact rfl);exact QR;(iterate 3 exact rfl);skip)|(apply OpTo_alloc;exact rfl;intro b;skip)))|(apply GO_cond;exact rfl;all_goals (intro hc;try simp only [hcS,reduceCtorEq] at hc;try (exfalso;omega)))|(apply GOl_split;exact rfl;exact rfl;all_goals (intro hc;try simp only [hcS,reduceCtorEq] at hc;try (exfalso;omega))))
      all_goals first
        | (exfalso;exact hk3 ⟨by assumption,by assumption⟩)
        | (have h3:=ih (k + 1,Es1,hk) ⟨by show k + 1 ≤ n;omega,hlk,by show I (movesE player (l.take (k + 1))) _ _;rw [hno];exact hI⟩ (by show n - (k + 1) < n - k;omega)
           refine GO_drop .here ?_
           exact GO_keep QS h3)
  · rw [List.take_of_length_le (by omega)] at hI
    repeat' (first|apply GO_seq|apply GO_region|apply GOl_nil|(apply GO_exit;exact rfl)|(apply GOl_pv;(iterate 3 exact rfl))|(apply GO_cond;exact rfl;all_goals (intro hc;try simp only [hcS,reduceCtorEq] at hc;try (exfalso;omega))))
    exact GO_end (rs:=[]) (vs:=[]) rfl rfl trivial (.inl hI)
theorem registered_c (h : Ro) (hG : PowG h) (A : Option Addr) (n c : Nat) (l : List (Fsh × Fct)) (hx : FactsAt h A n l) (player day : Int) : Res Tryz.prog 11 #[.slice A n c,.int .i64 player,.int .i64 day] h (fun u _ => u = .tuple #[.int .i64 (if (lastE day (movesE player l)).2.mTo < 0 then 0 else (lastE day (movesE player l)).2.mTo),.bool (decide (0 ≤ (lastE day (movesE player l)).2.mTo))]):=by
  refine Res_intro (args:=[_,_,_]) ts_ok Go.Proofs.Tryz.func11 rfl rfl fun w0 X0 => ?_
  repeat' (first|apply GO_seq|apply GO_block|apply GO_region|apply GOl_nil|(apply GOl_to;(iterate 3 exact rfl);apply OpTo_alloc (e:=60);exact rfl;intro bL)|(apply GOl_pv;(iterate 3 exact rfl))|(apply GOl_to;(iterate 3 exact rfl);(first|(apply OpTo_store;(iterate 3 exact rfl);exact QR;(iterate 3 exact rfl);skip)|(apply OpTo_box;exact rfl;intro b;skip)|(apply OpTo_res;exact rfl;exact has27;exact movesE_c _ A n c player;rintro vr hr1 hle1 ⟨bx,bp,rfl,hcb,hcp⟩;skip))))
  generalize b = bD
  refine GO_take (Es':=[Blk bL 60 (factC fsh0 last0),Blk bD 3 [.int .i64 day]]) QT ?_
  refine GO_rangeFuncR (R:=FR) (xs:=movesE player l) (gf:=48) (lb:=[.pointer (some ⟨bx,0,none⟩),.pointer (some ⟨bp,0,none⟩)]) rfl rfl has48 (movesSeq _ A n c l (hx.le hle1) player bx bp hcb hcp) (by rintro x u h2 rfl;rfl) rfl
    (fun pre Es h2 => Es = [Blk bL 60 (factC (lastE day pre).1 (lastE day pre).2),Blk bD 3 [.int .i64 day]]) (fun _ _ _ _ => False)
    (fun pre Es h2 h3 hl e => e) (fun _ _ _ _ _ _ h => h.elim) rfl ?_ ?_ (fun _ _ _ _ _ _ _ _ h => h.elim)
  · rintro lid r0 w1 X1 pre x post u Es1 h1 hxe rfl rfl hle hst
    have hm : ∀ y ∈ movesE player l,FAt h1 y.1 y.2 ∧ FSm y.2 ∧ FctOk y.2:=fun y hy => by
      rw [movesE_mem] at hy
      have:=hx.fat y hy.1
      exact ⟨this.1.le (hle1.trans hle),this.2,hy.2.2.2⟩
    obtain ⟨q1,q2,q3⟩:=hm x (by rw [hxe];simp)
    have hz : x.2.day = (lastE day pre).2.day → FAt h1 (lastE day pre).1 (lastE day pre).2 ∧ FSm (lastE day pre).2 ∧ FctOk (lastE day pre).2:=fun e => by
      rcases lastE_in day pre with e2|hin
      · have:=q3.day0
        rw [e2] at e
        rw [e] at this
        exact absurd this (by decide)
      · exact hm _ (by rw [hxe];simp [hin])
    rw [lastE_snoc]
    generalize lastE day pre = z at *
    obtain ⟨s,f⟩:=x
    obtain ⟨t,e⟩:=z
    unfold takeE
    dsimp only at q1 q2 q3 hz ⊢
    repeat' (first|apply GO_seq|apply GO_skip|apply GO_inBlock|apply GO_block|apply GO_region|apply GOl_nil|(apply GO_begin;exact rfl;exact QK;exact hst)|(apply GOl_unwanted;exact rfl;exact rfl)|(apply GOl_pv;(iterate 3 exact rfl))|(apply GOl_load;exact rfl;exact Ld_blk rfl QM rfl;exact rfl;exact rfl)|(apply GOl_to;(iterate 3 exact rfl);(first|(apply OpTo_store;(iterate 3 exact rfl);exact QR;(iterate 3 exact rfl);skip)|(apply OpTo_alloc;exact rfl;intro b;skip)|(apply OpTo_res;exact rfl;exact has28;exact compare7_c _ (hG.le (by first|exact Le.refl _|assumption|(repeat (first|assumption|(apply Le.trans;assumption))))) s t f e (q1.le (by first|exact Le.refl _|assumption|(repeat (first|assumption|(apply Le.trans;assumption))))) q2 ((hz (by assumption)).1.le (by first|exact Le.refl _|assumption|(repeat (first|assumption|(apply Le.trans;assumption))))) (hz (by assumption)).2.1 q3 (hz (by assumption)).2.2;rintro v2 h2 hle2 rfl;skip)))|(apply GO_cond;exact rfl;all_goals (intro hc;try simp only [hcS,reduceCtorEq] at hc;try (exfalso;omega)))|(apply GOl_split;exact rfl;exact rfl;all_goals (intro hc;try simp only [hcS,reduceCtorEq] at hc;try (exfalso;omega))))
    all_goals first
      | (rw [if_pos (show f.day ≤ day ∧ (e.day < f.day ∨ (f.day = e.day ∧ 0 < cmpF f e)) by omega)]
         refine GO_take (Es':=[LoopA lid { r0 with state:=.busy },Blk bL 60 (factC s f),Blk bD 3 [.int .i64 day]]) QT (GO_rEnd (r0:=r0) rfl .here ?_)
         rfl)
      | (rw [if_neg (show ¬ (f.day ≤ day ∧ (e.day < f.day ∨ (f.day = e.day ∧ 0 < cmpF f e))) by omega)]
         refine GO_take (Es':=[LoopA lid { r0 with state:=.busy },Blk bL 60 (factC t e),Blk bD 3 [.int .i64 day]]) QT (GO_rEnd (r0:=r0) rfl .here ?_)
         rfl)
  · rintro D h1 Es1 hle rfl
    repeat' (first|apply GO_seq|apply GO_skip|apply GO_inBlock|apply GO_region|apply GOl_nil|(apply GOl_pv;(iterate 3 exact rfl))|(apply GOl_load;exact rfl;exact Ld_blk rfl QM rfl;exact rfl;exact rfl)|(apply GO_cond;exact rfl;all_goals (intro hc;try simp only [hcS,reduceCtorEq] at hc;try (exfalso;omega))))
    · refine GO_rt (Rt_mark rfl QK (Rt_S (rs:=[.tmp 6,.tmp 7]) (vs:=[.int .i64 0,.bool false]) rfl rfl ⟨rfl,rfl,trivial⟩ (List.nil_sublist _) ⟨rfl,?_⟩))
      rw [if_pos hc,decide_eq_false (by omega)]
      rfl
    · refine GO_rt (Rt_mark rfl QK (Rt_S (rs:=[.tmp 6,.tmp 7]) (vs:=[.int .i64 (lastE day (movesE player l)).2.mTo,.bool true]) rfl rfl ⟨rfl,rfl,trivial⟩ (List.nil_sublist _) ⟨rfl,?_⟩))
      rw [if_neg (by omega),decide_eq_true hc]
      rfl
end Go.Hw
set_option linter.unusedVariables false
set_option linter.unusedSimpArgs false
set_option maxRecDepth 100000
set_option maxHeartbeats 8000000
namespace Go.Hw
open Go
attribute [local irreducible] GO GOl GDp Val Fn Res CellsAt ValE Blk OwnS MapA OwnPf Has Yl SepA forceL decC memS suspC suspN suspOne yelC cardsF nextC regF offS
open Go.Proofs (Tryz.prog)
theorem lastE_regF {l : List (Fsh × Fct)} (pl day : Int) : (lastE day (movesE pl l)).2 = regF (fcs l) pl day:=by
  have e : fcs (movesE pl l) = movesC pl (fcs l):=by
    unfold movesE movesC fcs
    rw [List.filter_map]
    rfl
  unfold regF lastE
  rw [← e]
  unfold fcs
  have go : ∀ (ms : List (Fsh × Fct)) (z : Fsh × Fct),(ms.foldl (takeE day) z).2 = (ms.map (·.2)).foldl (takeC day) z.2:=by
    intro ms
    induction ms with
    | nil => intro z;rfl
    | cons x r ih =>
      intro z
      rw [List.foldl_cons,ih,List.map_cons,List.foldl_cons]
      congr 1
      unfold takeE takeC
      split <;> rfl
  exact go (movesE pl l) (fsh0,last0)
theorem movesE_nil {l : List (Fsh × Fct)} {pl : Int} : movesE pl l = [] ↔ ¬ ∃ x ∈ fcs l,MvOf pl x:=by
  rw [List.eq_nil_iff_forall_not_mem]
  constructor
  · rintro h ⟨f,hf,q⟩
    unfold fcs at hf
    obtain ⟨p,hp,rfl⟩:=List.mem_map.1 hf
    exact h p (movesE_mem.2 ⟨hp,q⟩)
  · intro h p hp
    have:=movesE_mem.1 hp
    exact h ⟨p.2,List.mem_map.2 ⟨p,this.1,rfl⟩,this.2⟩
def RegIs (L : List Fct) (p day club : Int) : Prop:=0 ≤ (regF L p day).mTo ∧ (regF L p day).mTo = club
noncomputable def regV (L : List Fct) (p day : Int) : Value:=.tuple #[.int .i64 (if (regF L p day).mTo < 0 then 0 else (regF L p day).mTo),.bool (decide (0 ≤ (regF L p day).mTo))]
theorem registered2_c (h : Ro) (hG : PowG h) (A : Option Addr) (n c : Nat) (l : List (Fsh × Fct)) (hx : FactsAt h A n l) (player day : Int) : Res Tryz.prog 11 #[.slice A n c,.int .i64 player,.int .i64 day] h (fun u _ => u = regV (fcs l) player day):=by
  have:=registered_c h hG A n c l hx player day
  rw [lastE_regF] at this
  exact this
open Classical in
theorem off1_c (h : Ro) (hG : PowG h) (A : Option Addr) (n c : Nat) (l : List (Fsh × Fct)) (hx : FactsAt h A n l) (m : Int × Int) (b2 b6 : Nat) (s : Fsh × FScore) (h2 : CellsAt h ⟨b2,0,none⟩ [.slice A n c]) (h6 : CellsAt h ⟨b6,0,none⟩ (encSc s)) : Res Tryz.prog 29 #[.agg (encM2 m).toArray,.pointer (some ⟨b2,0,none⟩),.pointer (some ⟨b6,0,none⟩)] h (fun u _ => u = .bool (!decide ((∃ x ∈ fcs l,MvOf m.1 x) ∧ ¬ RegIs (fcs l) m.1 s.2.day m.2))):=by
  refine Res_intro (args:=[_,_,_]) ts_ok Go.Proofs.Tryz.func29 rfl rfl fun w0 X0 => ?_
  obtain ⟨p,cl⟩:=m
  obtain ⟨sf,sc⟩:=s
  dsimp only
  obtain ⟨vb,hvb⟩ : ∃ vb : Bool,(vb = true ↔ RegIs (fcs l) p sc.day cl):=⟨decide (RegIs (fcs l) p sc.day cl),by simp⟩
  repeat' (first|apply GO_seq|apply GO_block|apply GO_region|apply GOl_nil|(apply GOl_to;(iterate 3 exact rfl);apply OpTo_box (e:=76);exact rfl;intro b3)|(apply GOl_to;(iterate 3 exact rfl);apply OpTo_alloc (e:=4);exact rfl;intro b4)|(apply GOl_pv;(iterate 3 exact rfl))|(apply GOl_load;exact rfl;exact Ld_blk rfl QM rfl;exact rfl;exact rfl)|(apply GOl_ov;exact rfl;exact rfl;(first|(apply OV_load;exact rfl;exact Lv_ro rfl h2 rfl));exact QA)|(apply GOl_to;(iterate 3 exact rfl);(first|(apply OpTo_res;exact rfl;exact has27;exact movesE_c _ A n c p;rintro vr hr1 hle1 ⟨bx,bp,rfl,hcb,hcp⟩;skip))))
  refine GO_take (Es':=[Blk b4 4 [.bool false],Blk b3 76 (encM2 (p,cl))]) QT ?_
  refine GO_rangeFuncR (R:=FR) (xs:=movesE p l) (gf:=48) (lb:=[.pointer (some ⟨bx,0,none⟩),.pointer (some ⟨bp,0,none⟩)]) rfl rfl has48 (movesSeq _ A n c l (hx.le hle1) p bx bp hcb hcp) (by rintro x u h2 rfl;rfl) rfl
    (fun pre Es h2 => pre = [] ∧ Es = [Blk b4 4 [.bool false],Blk b3 76 (encM2 (p,cl))])
    (fun cd pre Es h2 => cd = .ret ∧ pre ≠ [] ∧ Es = [Blk b4 4 [.bool vb]])
    (fun pre Es h2 h3 hl e => e) (fun _ _ _ _ _ _ h => h) ⟨rfl,rfl⟩ ?_ ?_ ?_
  · rintro lid r0 w1 X1 pre x post u Es1 h1 hxe rfl ⟨rfl,rfl⟩ hle hst
    have hrg:=fun h' (hl : Le h1 h') => registered2_c h' (hG.le (hle1.trans (hle.trans hl))) A n c l (hx.le (hle1.trans (hle.trans hl))) p sc.day
    have h2':=(h2.le hle1).le hle
    have h6':=(h6.le hle1).le hle
    unfold regV at hrg
    have hv : vb = true ↔ 0 ≤ (regF (fcs l) p sc.day).mTo ∧ (regF (fcs l) p sc.day).mTo = cl:=hvb
    clear hvb
    generalize (regF (fcs l) p sc.day).mTo = t at *
    by_cases ht : 0 ≤ t
    · rw [if_neg (show ¬ t < 0 by omega),decide_eq_true ht] at hrg
      have e : eqI t cl = vb:=by rw [Bool.eq_iff_iff,eqI_t,hv];exact ⟨fun q => ⟨ht,q⟩,fun q => q.2⟩
      subst e
      repeat' (first|apply GO_seq|apply GO_skip|apply GO_block|apply GO_region|apply GOl_nil|(apply GO_begin;exact rfl;exact QK;exact hst)|(apply GOl_pv;(iterate 3 exact rfl))|(apply GOl_load;exact rfl;exact Ld_blk rfl QM rfl;exact rfl;exact rfl)|(apply GOl_ov;exact rfl;exact rfl;(first|(apply OV_load;exact rfl;exact Lv_ro rfl h2' rfl)|(apply OV_load;exact rfl;exact Lv_roF rfl h6' rfl));exact QA)|(apply GOl_to;(iterate 3 exact rfl);(first|(apply OpTo_store;(iterate 3 exact rfl);exact QR;(iterate 3 exact rfl);skip)|(apply OpTo_res;exact rfl;exact has11;exact hrg _ (by first|exact Le.refl _|assumption|(repeat (first|assumption|(apply Le.trans;assumption))));rintro v2 h3 hle3 rfl;skip))))
      all_goals first
        | (refine GO_take (Es':=[LoopA lid { r0 with state:=.busy },Blk b4 4 [.bool (eqI t cl)]]) QT (GO_rRet (r0:=r0) rfl .here ⟨rfl,by simp,rfl⟩))
    · rw [if_pos (show t < 0 by omega),decide_eq_false ht] at hrg
      have e : vb = false:=by rw [← Bool.not_eq_true,hv];exact fun q => ht q.1
      subst e
      repeat' (first|apply GO_seq|apply GO_skip|apply GO_block|apply GO_region|apply GOl_nil|(apply GO_begin;exact rfl;exact QK;exact hst)|(apply GOl_unwanted;exact rfl;exact rfl)|(apply GOl_pv;(iterate 3 exact rfl))|(apply GOl_load;exact rfl;exact Ld_blk rfl QM rfl;exact rfl;exact rfl)|(apply GOl_ov;exact rfl;exact rfl;(first|(apply OV_load;exact rfl;exact Lv_ro rfl h2' rfl)|(apply OV_load;exact rfl;exact Lv_roF rfl h6' rfl));exact QA)|(apply GOl_to;(iterate 3 exact rfl);(first|(apply OpTo_store;(iterate 3 exact rfl);exact QR;(iterate 3 exact rfl);skip)|(apply OpTo_res;exact rfl;exact has11;exact hrg _ (by first|exact Le.refl _|assumption|(repeat (first|assumption|(apply Le.trans;assumption))));rintro v2 h3 hle3 rfl;skip))))
      all_goals first
        | (refine GO_take (Es':=[LoopA lid { r0 with state:=.busy },Blk b4 4 [.bool false]]) QT (GO_rRet (r0:=r0) rfl .here ⟨rfl,by simp,rfl⟩))
  · rintro D h1 Es1 hle ⟨hnil,rfl⟩
    have hno:=movesE_nil.1 hnil
    rw [show (!decide ((∃ x ∈ fcs l,MvOf p x) ∧ ¬ RegIs (fcs l) p sc.day cl)) = true from by rw [decide_eq_false (fun q => hno q.1)];rfl]
    repeat' (first|apply GO_seq|apply GO_inBlock|apply GO_region|apply GOl_nil|(apply GOl_to;(iterate 3 exact rfl);(first|(apply OpTo_store;(iterate 3 exact rfl);exact QR;(iterate 3 exact rfl);skip))))
    all_goals
      refine GO_rt (Rt_mark rfl QK (Rt_S (rs:=[.cell 4 4]) (vs:=[.bool true]) rfl rfl ⟨⟨_,rfl,Ld_blk rfl QM rfl⟩,trivial⟩ (List.nil_sublist _) ⟨rfl,rfl⟩))
  · rintro D h1 Es1 cd pre post hxe hle ⟨rfl,hne,rfl⟩
    have hyes : ∃ x ∈ fcs l,MvOf p x:=by
      refine Classical.byContradiction fun q => ?_
      rw [movesE_nil.2 q] at hxe
      have:=(List.append_eq_nil_iff.1 hxe.symm).1
      exact hne this
    rw [show (!decide ((∃ x ∈ fcs l,MvOf p x) ∧ ¬ RegIs (fcs l) p sc.day cl)) = vb from by
      cases vb
      · rw [decide_eq_true ⟨hyes,fun q => by have:=hvb.2 q;cases this⟩];rfl
      · rw [decide_eq_false (fun w => w.2 (hvb.1 rfl))];rfl]
    refine GO_rt (Rt_mark rfl QK (Rt_S (rs:=[.cell 4 4]) (vs:=[.bool vb]) rfl rfl ⟨⟨_,rfl,Ld_blk rfl QM rfl⟩,trivial⟩ (List.nil_sublist _) ⟨rfl,rfl⟩))
theorem off2_c (h : Ro) (hG : PowG h) (A : Option Addr) (n c : Nat) (l : List (Fsh × Fct)) (hx : FactsAt h A n l) (m : Int × Int) (b2 b6 : Nat) (s : Fsh × FScore) (h2 : CellsAt h ⟨b2,0,none⟩ [.slice A n c]) (h6 : CellsAt h ⟨b6,0,none⟩ (encSc s)) : Res Tryz.prog 30 #[.agg (encM2 m).toArray,.pointer (some ⟨b2,0,none⟩),.pointer (some ⟨b6,0,none⟩)] h (fun u _ => u = .bool (unfitL (canonL (fcs l)) m.1 s.2.day)):=by
  refine Res_intro (args:=[_,_,_]) ts_ok Go.Proofs.Tryz.func30 rfl rfl fun w0 X0 => ?_
  repeat' (first|apply GO_seq|apply GO_region|apply GOl_nil|(apply GOl_pv;(iterate 3 exact rfl))|(apply GOl_load;exact rfl;exact Ld_blk rfl QM rfl;exact rfl;exact rfl)|(apply GOl_ov;exact rfl;exact rfl;(first|(apply OV_load;exact rfl;exact Lv_ro rfl h2 rfl)|(apply OV_load;exact rfl;exact Lv_roF rfl h6 rfl));exact QA)|(apply GOl_to;(iterate 3 exact rfl);(first|(apply OpTo_box;exact rfl;intro b;skip)|(apply OpTo_res;exact rfl;exact has15;exact Unfit_c _ (hG.le (by first|exact Le.refl _|assumption|(repeat (first|assumption|(apply Le.trans;assumption))))) A n c l (hx.le (by first|exact Le.refl _|assumption|(repeat (first|assumption|(apply Le.trans;assumption))))) m.1 s.2.day;rintro v2 h3 hle3 rfl;skip))))
  all_goals first
    | ((first|(apply GO_retR1;(iterate 3 exact rfl)));rfl)
theorem off3_c (h : Ro) (m : Int × Int) (b7 bm : Nat) (mm : List (Int × Bool)) (h7 : CellsAt h ⟨b7,0,none⟩ [.map (some bm)]) : Fn Tryz.prog 31 #[.agg (encM2 m).toArray,.pointer (some ⟨b7,0,none⟩)] [MapA ekN Value.bool bm mm] h (fun u Es _ => u = .bool ((lookA m.1 mm).getD false) ∧ Es = [MapA ekN Value.bool bm mm]):=by
  refine Fn_intro (args:=[_,_]) ts_ok Go.Proofs.Tryz.func31 rfl rfl fun w0 X0 => ?_
  have hK:=KN
  repeat' (first|apply GO_seq|apply GO_region|apply GOl_nil|(apply GOl_pv;(iterate 3 exact rfl))|(apply GOl_load;exact rfl;exact Ld_blk rfl QM rfl;exact rfl;exact rfl)|(apply GOl_ov;exact rfl;exact rfl;(first|(apply OV_load;exact rfl;exact Lv_ro rfl h7 rfl)|(apply OV_lookD (ek:=ekN) (ev:=Value.bool) (z0:=false) (key:=m.1) (b:=bm) (m:=mm) hK;(iterate 7 exact rfl)));exact QA)|(apply GOl_to;(iterate 3 exact rfl);(first|(apply OpTo_box;exact rfl;intro b;skip))))
  all_goals first
    | (exact GO_retS1 rfl rfl rfl (by (repeat (first|exact List.Sublist.refl _|exact List.nil_sublist _|apply List.Sublist.cons_cons|apply List.Sublist.cons));done) ⟨rfl,rfl⟩)
def BanIs (S : List FSusp) (g : FGame) (mm : List (Int × Bool)) : Prop:=∀ p,(lookA p mm).getD false = true ↔ ∃ s ∈ S,s.p = p ∧ s.g = g
def resV2 (b2 b6 b7 : Nat) : List Value:=[.func (.func 29) #[] #[.pointer (some ⟨b2,0,none⟩),.pointer (some ⟨b6,0,none⟩)],.func (.func 30) #[] #[.pointer (some ⟨b2,0,none⟩),.pointer (some ⟨b6,0,none⟩)],.func (.func 31) #[] #[.pointer (some ⟨b7,0,none⟩)]]
open Classical in
theorem offends_c (h : Ro) (hG : PowG h) (A : Option Addr) (n c : Nat) (l : List (Fsh × Fct)) (hx : FactsAt h A n l) (m : Int × Int) (b2 b6 b7 bm : Nat) (s : Fsh × FScore) (h2 : CellsAt h ⟨b2,0,none⟩ [.slice A n c]) (h6 : CellsAt h ⟨b6,0,none⟩ (encSc s)) (mm : List (Int × Bool)) (h7 : CellsAt h ⟨b7,0,none⟩ [.map (some bm)]) (S : List FSusp) (g : FGame) (hb : BanIs S g mm) :
    Fn Tryz.prog 33 #[.agg (resV2 b2 b6 b7).toArray,.agg (encM2 m).toArray] [MapA ekN Value.bool bm mm] h (fun u Es _ => u = .bool (decide (OffB (fcs l) S g s.2.day m.2 m.1)) ∧ Es = [MapA ekN Value.bool bm mm]):=by
  refine Fn_intro (args:=[_,_]) ts_ok Go.Proofs.Tryz.func33 rfl rfl fun w0 X0 => ?_
  have h1:=fun h' (hl : Le h h') => off1_c h' (hG.le hl) A n c l (hx.le hl) m b2 b6 s (h2.le hl) (h6.le hl)
  have h3:=fun h' (hl : Le h h') => off2_c h' (hG.le hl) A n c l (hx.le hl) m b2 b6 s (h2.le hl) (h6.le hl)
  have h4:=fun h' (hl : Le h h') => off3_c h' m b7 bm mm (h7.le hl)
  have hO : OffB (fcs l) S g s.2.day m.2 m.1 ↔ ((∃ x ∈ fcs l,MvOf m.1 x) ∧ ¬ RegIs (fcs l) m.1 s.2.day m.2) ∨ unfitL (canonL (fcs l)) m.1 s.2.day = true ∨ (lookA m.1 mm).getD false = true:=by
    unfold OffB RegIs
    rw [hb m.1]
  by_cases q1 : (∃ x ∈ fcs l,MvOf m.1 x) ∧ ¬ RegIs (fcs l) m.1 s.2.day m.2
  · rw [decide_eq_true q1] at h1
    rw [decide_eq_true (hO.2 (.inl q1))]
    clear h3 h4
    repeat' (first|apply GO_seq|apply GO_region|apply GOl_nil|(apply GOl_unwanted;exact rfl;exact rfl)|(apply GOl_pv;(iterate 3 exact rfl))|(apply GOl_load;exact rfl;exact Ld_blk rfl QM rfl;exact rfl;exact rfl)|(apply GOl_to;(iterate 3 exact rfl);(first|(apply OpTo_box;exact rfl;intro b;skip)|(apply OpTo_resF (f:=29) (fs:=[]) (cs:=[.pointer (some ⟨b2,0,none⟩),.pointer (some ⟨b6,0,none⟩)]);exact rfl;exact rfl;exact has29;exact h1 _ (by first|exact Le.refl _|assumption|(repeat (first|assumption|(apply Le.trans;assumption))));rintro v2 h3 hle3 rfl;skip))))
    all_goals first
      | (exact GO_retS1 rfl rfl rfl (by (repeat (first|exact List.Sublist.refl _|exact List.nil_sublist _|apply List.Sublist.cons_cons|apply List.Sublist.cons));done) ⟨rfl,rfl⟩)
  · rw [decide_eq_false q1] at h1
    cases q2 : unfitL (canonL (fcs l)) m.1 s.2.day with
    | true =>
      rw [q2] at h3
      rw [decide_eq_true (hO.2 (.inr (.inl q2)))]
      clear h4
      repeat' (first|apply GO_seq|apply GO_region|apply GOl_nil|(apply GOl_unwanted;exact rfl;exact rfl)|(apply GOl_pv;(iterate 3 exact rfl))|(apply GOl_load;exact rfl;exact Ld_blk rfl QM rfl;exact rfl;exact rfl)|(apply GOl_to;(iterate 3 exact rfl);(first|(apply OpTo_box;exact rfl;intro b;skip)|(apply OpTo_resF (f:=29) (fs:=[]) (cs:=[.pointer (some ⟨b2,0,none⟩),.pointer (some ⟨b6,0,none⟩)]);exact rfl;exact rfl;exact has29;exact h1 _ (by first|exact Le.refl _|assumption|(repeat (first|assumption|(apply Le.trans;assumption))));rintro v2 h5 hle5 rfl;skip)|(apply OpTo_resF (f:=30) (fs:=[]) (cs:=[.pointer (some ⟨b2,0,none⟩),.pointer (some ⟨b6,0,none⟩)]);exact rfl;exact rfl;exact has30;exact h3 _ (by first|exact Le.refl _|assumption|(repeat (first|assumption|(apply Le.trans;assumption))));rintro v4 h6 hle6 rfl;skip))))
      all_goals first
        | (exact GO_retS1 rfl rfl rfl (by (repeat (first|exact List.Sublist.refl _|exact List.nil_sublist _|apply List.Sublist.cons_cons|apply List.Sublist.cons));done) ⟨rfl,rfl⟩)
    | false =>
      rw [q2] at h3
      have e : decide (OffB (fcs l) S g s.2.day m.2 m.1) = (lookA m.1 mm).getD false:=by
        rw [Bool.eq_iff_iff,decide_eq_true_eq,hO,q2]
        exact ⟨fun w => (w.resolve_left q1).resolve_left (by simp),fun w => .inr (.inr w)⟩
      rw [e]
      generalize (lookA m.1 mm).getD false = bb at *
      repeat' (first|apply GO_seq|apply GO_region|apply GOl_nil|(apply GOl_pv;(iterate 3 exact rfl))|(apply GOl_load;exact rfl;exact Ld_blk rfl QM rfl;exact rfl;exact rfl)|(apply GOl_to;(iterate 3 exact rfl);(first|(apply OpTo_box;exact rfl;intro b;skip)|(apply OpTo_resF (f:=29) (fs:=[]) (cs:=[.pointer (some ⟨b2,0,none⟩),.pointer (some ⟨b6,0,none⟩)]);exact rfl;exact rfl;exact has29;exact h1 _ (by first|exact Le.refl _|assumption|(repeat (first|assumption|(apply Le.trans;assumption))));rintro v2 h5 hle5 rfl;skip)|(apply OpTo_resF (f:=30) (fs:=[]) (cs:=[.pointer (some ⟨b2,0,none⟩),.pointer (some ⟨b6,0,none⟩)]);exact rfl;exact rfl;exact has30;exact h3 _ (by first|exact Le.refl _|assumption|(repeat (first|assumption|(apply Le.trans;assumption))));rintro v4 h6 hle6 rfl;skip)|(apply OpTo_callPF (f:=31) (fs:=[]) (cs:=[.pointer (some ⟨b7,0,none⟩)]);exact rfl;exact rfl;exact has31;exact h4 _ (by first|exact Le.refl _|assumption|(repeat (first|assumption|(apply Le.trans;assumption))));exact QT;rintro v5 Es5 h8 hle8 ⟨rfl,rfl⟩;skip))))
      all_goals first
        | (exact GO_retS1 rfl rfl rfl (by (repeat (first|exact List.Sublist.refl _|exact List.nil_sublist _|apply List.Sublist.cons_cons|apply List.Sublist.cons));done) ⟨rfl,rfl⟩)
def OffOut (h : Ro) (u : Value) (o : List Int × List Int) : Prop:=∃ A1 c1 A2 c2,u = .tuple #[.slice A1 o.1.length c1,.slice A2 o.2.length c2] ∧ SlOf encI 1 h A1 o.1.length o.1 ∧ SlOf encI 1 h A2 o.2.length o.2
open Classical in
theorem off4_c (h : Ro) (hG : PowG h) (A : Option Addr) (n c : Nat) (l : List (Fsh × Fct)) (hx : FactsAt h A n l) (B : Option Addr) (nb d : Nat) (sq : List Int) (hsq : SlOf encI 1 h B nb sq) (hnb : nb ≤ 1000000) (cl : Int) (b2 b6 b7 b10 bm : Nat) (s : Fsh × FScore) (h2 : CellsAt h ⟨b2,0,none⟩ [.slice A n c]) (h6 : CellsAt h ⟨b6,0,none⟩ (encSc s)) (mm : List (Int × Bool)) (h7 : CellsAt h ⟨b7,0,none⟩ [.map (some bm)]) (h10 : CellsAt h ⟨b10,0,none⟩ (resV2 b2 b6 b7)) (S : List FSusp) (g : FGame) (hb : BanIs S g mm) :
    Fn Tryz.prog 32 #[.slice B nb d,.int .i64 cl,.pointer (some ⟨b10,0,none⟩)] [MapA ekN Value.bool bm mm] h (fun u Es h' => ∃ A' c',u = .slice A' (offS (fcs l) S g s.2.day cl sq).length c' ∧ SlOf encI 1 h' A' (offS (fcs l) S g s.2.day cl sq).length (offS (fcs l) S g s.2.day cl sq) ∧ Es = [MapA ekN Value.bool bm mm]):=by
  refine Fn_intro (args:=[_,_,_]) ts_ok Go.Proofs.Tryz.func32 rfl rfl fun w0 X0 => ?_
  have hof:=fun h' (hl : Le h h') p => offends_c h' (hG.le hl) A n c l (hx.le hl) (p,cl) b2 b6 b7 bm s (h2.le hl) (h6.le hl) mm (h7.le hl) S g hb
  have hlen:=hsq.len
  have hsn:=offS_snoc (fcs l) S g s.2.day cl
  have hsl:=offS_len (fcs l) S g s.2.day cl
  have hO0 : offS (fcs l) S g s.2.day cl [] = []:=by unfold offS;rfl
  dsimp only at hof
  obtain ⟨qb,hqb⟩ : ∃ qb : Int → Bool,∀ p,qb p = decide (OffB (fcs l) S g s.2.day cl p):=⟨_,fun _ => rfl⟩
  have hof : ∀ h' (hl : Le h h') p,Fn Tryz.prog 33 #[.agg (resV2 b2 b6 b7).toArray,.agg (encM2 (p,cl)).toArray] [MapA ekN Value.bool bm mm] h' (fun u Es _ => u = .bool (qb p) ∧ Es = [MapA ekN Value.bool bm mm]):=fun h' hl p => by rw [hqb p];exact hof h' hl p
  have hsn : ∀ sq p,offS (fcs l) S g s.2.day cl (sq ++ [p]) = if qb p = true then offS (fcs l) S g s.2.day cl sq ++ [p] else offS (fcs l) S g s.2.day cl sq:=fun sq p => by
    rw [hsn sq p,hqb p]
    by_cases q : OffB (fcs l) S g s.2.day cl p
    · rw [if_pos q,decide_eq_true q,if_pos rfl]
    · rw [if_neg q,decide_eq_false q,if_neg (by simp)]
  clear hqb
  generalize offS (fcs l) S g s.2.day cl = O at *
  clear hx h2 h6 h7 hb
  repeat' (first|apply GO_seq|apply GO_block|apply GO_region|apply GOl_nil|(apply GOl_pv;(iterate 3 exact rfl)))
  refine GO_nilS 3 1 ?_
  refine GO_loopT (X:=Nat × List Int × Option Addr × Nat × Ro) (fun x => x.1 ≤ nb ∧ Le h x.2.2.2.2 ∧ x.2.1 = O (sq.take x.1)) (fun x => nb - x.1)
    (fun x => [(10,.int .i64 x.1),(9,.int .i64 nb),(8,.slice B nb d),(5,.slice x.2.2.1 x.2.1.length x.2.2.2.1),(1,.int .i64 cl),(2,ptrV b10)])
    (fun x => [OwnS 3 1 (.slice x.2.2.1 x.2.1.length x.2.2.2.1) x.2.1.length (x.2.1.flatMap encI),MapA ekN Value.bool bm mm]) (fun x => x.2.2.2.2) (0,[],none,0,h) ⟨by dsimp only;omega,Le.refl _,hO0.symm⟩ QS QT rfl ?_
  rintro ⟨k,out,A4,c4,hh⟩ ⟨hk,hle,ho⟩ ih
  dsimp only at hk hle ho ih ⊢
  have hol : out.length ≤ k:=by
    rw [ho]
    refine Nat.le_trans (hsl _) ?_
    rw [List.length_take];omega
  by_cases hkn : k < nb
  · have a1:=hsq.addrD hkn
    have c1 : CellsAt hh ((addrD B).add (k * ty3.size)) (encI (sq.getD k 0)):=(hsq.cellsD 0 hkn).le hle
    have et:=take7 0 (xs:=sq) hlen hkn
    have c10:=h10.le hle
    generalize sq.getD k 0 = p at *
    have e0:=hsn (sq.take k) p
    rw [← et,← ho] at e0
    have hof:=fun h' (hl : Le hh h') => hof h' (hle.trans hl) p
    cases hq : qb p with
    | true =>
      rw [hq] at e0 hof
      rw [if_pos rfl] at e0
      clear hsn hsl
      repeat' (first|apply GO_seq|apply GO_skip|apply GO_inBlock|apply GO_block|apply GO_region|apply GOl_nil|(apply GOl_add;(iterate 3 exact rfl);omega;exact rfl;exact rfl)|(apply GOl_pv;(iterate 3 exact rfl))|(apply GOl_ov;exact rfl;exact rfl;(first|(apply OV_idxS (j:=k);(iterate 5 exact rfl);exact a1;(with_reducible exact rfl);omega)|(apply OV_load;exact rfl;apply Lv_ro;exact rfl;(with_reducible exact c1);exact rfl)|(apply OV_load;exact rfl;apply Lv_ro;exact rfl;(with_reducible exact c10);exact rfl));exact QA)|(apply GOl_to;(iterate 3 exact rfl);(first|(apply OpTo_callP;exact rfl;exact has33;exact hof _ (by first|exact Le.refl _|assumption|(repeat (first|assumption|(apply Le.trans;assumption))));exact QT;rintro v5 Es5 h8 hle8 ⟨rfl,rfl⟩;skip)|(apply OpTo_buildSliceS (enc:=encI) (n:=1) [p];(iterate 3 exact rfl);exact List.cons_ne_nil _ _;(iterate 4 exact rfl);exact fun _ => rfl;exact rfl;exact rfl;intro b5 h9 hle9 hs5;skip)|(apply OpTo_appendS (enc:=encI) (xs:=out);(iterate 7 exact rfl);exact hs5;exact fun _ => rfl;exact fun x => allOne_ok rfl;intro v1;exact QR;omega;exact rfl;intro A5 c5;skip)))|(apply GO_cond;exact rfl;all_goals (intro hc;try simp only [hcS,reduceCtorEq] at hc;try (exfalso;omega))))
      all_goals first
        | (exfalso;omega)
        | (exfalso;simp at hc;done)
        | (have h3:=ih (k + 1,out ++ [p],A5,c5,h9) ⟨by dsimp only;omega,hle.trans (hle8.trans hle9),by dsimp only;rw [e0]⟩ (by dsimp only;omega)
           dsimp only at h3
           rw [List.length_append] at h3
           refine GO_fit QS QT (h3))
    | false =>
      rw [hq] at e0 hof
      rw [if_neg (by simp)] at e0
      clear hsn hsl
      repeat' (first|apply GO_seq|apply GO_skip|apply GO_inBlock|apply GO_block|apply GO_region|apply GOl_nil|(apply GOl_add;(iterate 3 exact rfl);omega;exact rfl;exact rfl)|(apply GOl_pv;(iterate 3 exact rfl))|(apply GOl_ov;exact rfl;exact rfl;(first|(apply OV_idxS (j:=k);(iterate 5 exact rfl);exact a1;(with_reducible exact rfl);omega)|(apply OV_load;exact rfl;apply Lv_ro;exact rfl;(with_reducible exact c1);exact rfl)|(apply OV_load;exact rfl;apply Lv_ro;exact rfl;(with_reducible exact c10);exact rfl));exact QA)|(apply GOl_to;(iterate 3 exact rfl);(first|(apply OpTo_callP;exact rfl;exact has33;exact hof _ (by first|exact Le.refl _|assumption|(repeat (first|assumption|(apply Le.trans;assumption))));exact QT;rintro v5 Es5 h8 hle8 ⟨rfl,rfl⟩;skip)))|(apply GO_cond;exact rfl;all_goals (intro hc;try simp only [hcS,reduceCtorEq] at hc;try (exfalso;omega))))
      all_goals first
        | (exfalso;omega)
        | (exfalso;simp at hc;done)
        | (have h3:=ih (k + 1,out,A4,c4,h8) ⟨by dsimp only;omega,hle.trans hle8,by dsimp only;rw [e0]⟩ (by dsimp only;omega)
           dsimp only at h3
           refine GO_fit QS QT (h3))
  · rw [List.take_of_length_le (by omega)] at ho
    clear ih hof hsn hsl
    rw [← ho]
    refine GO_relC (enc:=encI) (e:=3) (sz:=1) (n:=out.length) (xs:=out) (fun _ => rfl) rfl QK ?_
    intro A7 c7 h8 hle8 e7 hnc7 hs7
    cases e7
    repeat' (first|apply GO_seq|apply GO_region|apply GOl_nil|(apply GO_exit;exact rfl)|(apply GOl_pv;(iterate 3 exact rfl))|(apply GO_cond;exact rfl;all_goals (intro hc;try simp only [hcS,reduceCtorEq] at hc;try (exfalso;omega))))
    all_goals first
      | (exfalso;omega)
      | (exact GO_retS1 rfl rfl rfl (by (repeat (first|exact List.Sublist.refl _|exact List.nil_sublist _|apply List.Sublist.cons_cons|apply List.Sublist.cons));done) ⟨A4,c4,rfl,hs7,rfl⟩)
def banM (g : FGame) (S : List FSusp) : List (Int × Bool):=S.foldl (fun m s => if s.g = g then insA s.p true m else m) []
theorem banM_snoc (g : FGame) (S : List FSusp) (s : FSusp) : banM g (S ++ [s]) = if s.g = g then insA s.p true (banM g S) else banM g S:=by unfold banM;rw [List.foldl_append];rfl
theorem banM_is (g : FGame) (S : List FSusp) : BanIs S g (banM g S):=by
  refine snocI (P:=fun S => BanIs S g (banM g S)) (fun p => ?_) (fun S s ih p => ?_) S
  · constructor
    · intro h;cases h
    · rintro ⟨s,hs,_⟩;cases hs
  · rw [banM_snoc]
    have:=ih p
    by_cases hg : s.g = g
    · rw [if_pos hg,look7]
      by_cases hp : s.p = p
      · rw [if_pos hp]
        exact ⟨fun _ => ⟨s,by simp,hp,hg⟩,fun _ => rfl⟩
      · rw [if_neg hp,this]
        constructor
        · rintro ⟨t,h1,h2⟩;exact ⟨t,by simp [h1],h2⟩
        · rintro ⟨t,h1,h2⟩
          rw [List.mem_append,List.mem_singleton] at h1
          rcases h1 with h1|rfl
          · exact ⟨t,h1,h2⟩
          · exact absurd h2.1 hp
    · rw [if_neg hg,this]
      constructor
      · rintro ⟨t,h1,h2⟩;exact ⟨t,by simp [h1],h2⟩
      · rintro ⟨t,h1,h2⟩
        rw [List.mem_append,List.mem_singleton] at h1
        rcases h1 with h1|rfl
        · exact ⟨t,h1,h2⟩
        · exact absurd h2.2 hg
theorem offL_no {L : List Fct} {g : FGame} (h : (scoreF L g).kind ≠ 2) : offL L g = ([],[]):=by unfold offL;rw [if_neg h]
theorem offL_yes {L : List Fct} {g : FGame} {x : FScore} (hx : scoreF L g = x) (h : x.kind = 2) : offL L g = (offS L (suspC (decC L g.s g.c)) g x.day g.h x.sh.hs,offS L (suspC (decC L g.s g.c)) g x.day g.a x.sh.asn):=by unfold offL;rw [hx,if_pos h]
def su0 : FSusp:=⟨0,0,game0⟩
theorem Offenders_c (h : Ro) (hG : PowG h) (A : Option Addr) (n c : Nat) (l : List (Fsh × Fct)) (hx : FactsAt h A n l) (hn6 : n ≤ 65536) (g : FGame) : Res Tryz.prog 14 #[.slice A n c,gameV g] h (fun u h' => OffOut h' u (offL (fcs l) g)):=by
  refine Res_intro (args:=[_,_]) ts_ok Go.Proofs.Tryz.func14 rfl rfl fun w0 X0 => ?_
  have hsc:=fun h' (hl : Le h h') => score2_c h' (hG.le hl) A n c l (hx.le hl) g
  have hsu:=fun h' (hl : Le h h') => Suspensions_c h' (hG.le hl) A n c l (hx.le hl) hn6 g.s g.c
  have hno:=offL_no (L:=fcs l) (g:=g)
  have hyes:=fun x => offL_yes (L:=fcs l) (g:=g) (x:=x)
  have hsh:=score_agreed (In32_factsX hx) (g:=g)
  rw [show cont l = fcs l from rfl] at hsc
  generalize hsx : scoreF (fcs l) g = x at *
  generalize suspC (decC (fcs l) g.s g.c) = S at *
  by_cases hk2 : x.kind = 2
  case' neg =>
    rw [hno hk2]
    clear hsu hno hyes
    repeat' (first|apply GO_seq|apply GO_region|apply GOl_nil|(apply GOl_pv;(iterate 3 exact rfl))|(apply GOl_load;exact rfl;exact Ld_blk rfl QM rfl;exact rfl;exact rfl)|(apply GOl_to;(iterate 3 exact rfl);(first|(apply OpTo_store;(iterate 3 exact rfl);exact QR;(iterate 3 exact rfl);skip)|(apply OpTo_box;exact rfl;intro b;skip)|(apply OpTo_alloc;exact rfl;intro b;skip)|(apply OpTo_res;exact rfl;exact has7;exact hsc _ (by first|exact Le.refl _|assumption|(repeat (first|assumption|(apply Le.trans;assumption))));rintro w2 h2 hle2 ⟨s,rfl,hs1,hs2⟩;skip)))|(apply GO_cond;exact rfl;all_goals (intro hc;try simp only [hcS,reduceCtorEq] at hc;try (exfalso;omega))))
    all_goals first
      | (exfalso;omega)
      | (exact GO_retR2 rfl rfl rfl rfl ⟨none,0,none,0,rfl,SlOf.nil,SlOf.nil⟩)
  have hyes:=hyes x rfl hk2
  have hsz : x.sh.hs.length ≤ 1000000 ∧ x.sh.asn.length ≤ 1000000:=by
    obtain ⟨f,_,ok,kf,e,_⟩:=hsh hk2
    have:=ok.2.2.1
    unfold ContOk at this
    rw [if_neg (by omega),if_neg (by omega),if_pos kf,e] at this
    have h1:=this.2.2.2.2.2.1.1
    have h2:=this.2.2.2.2.2.2.1.1
    omega
  rw [hyes]
  clear hno hyes hsh
  repeat' (first|apply GO_seq|apply GO_skip|apply GO_block|apply GO_region|apply GOl_nil|(apply GOl_to;(iterate 3 exact rfl);apply OpTo_box (e:=22);exact rfl;intro b2)|(apply GOl_to;(iterate 3 exact rfl);apply OpTo_box (e:=28);exact rfl;intro b3)|(apply GOl_to;(iterate 3 exact rfl);apply OpTo_alloc (e:=36);exact rfl;intro b6)|(apply GOl_to;(iterate 3 exact rfl);apply OpTo_alloc (e:=94);exact rfl;intro b7)|(apply GOl_pv;(iterate 3 exact rfl))|(apply GOl_load;exact rfl;exact Ld_blk rfl QM rfl;exact rfl;exact rfl)|(apply GOl_to;(iterate 3 exact rfl);(first|(apply OpTo_store;(iterate 3 exact rfl);exact QR;(iterate 3 exact rfl);skip)|(apply OpTo_res;exact rfl;exact has7;exact hsc _ (by first|exact Le.refl _|assumption|(repeat (first|assumption|(apply Le.trans;assumption))));rintro w2 h3 hle3 ⟨s,rfl,hs1,hs2⟩;skip)|(apply OpTo_makeMap ekN Value.bool;intro bm;skip)|(apply OpTo_res;exact rfl;exact has6;exact hsu _ (by first|exact Le.refl _|assumption|(repeat (first|assumption|(apply Le.trans;assumption))));rintro w4 h4 hle4 ⟨A5,c5,rfl,hsS,hSn⟩;skip)))|(apply GO_cond;exact rfl;all_goals (intro hc;try simp only [hcS,reduceCtorEq] at hc;try (exfalso;omega))))
  all_goals (try (exfalso;omega))
  have hK:=KN
  refine GO_loopT (X:=Nat) (fun k => k ≤ S.length) (fun k => S.length - k)
    (fun k => [(26,.int .i64 k),(25,.int .i64 S.length),(24,.slice A5 S.length c5),(7,ptrV b7),(6,ptrV b6),(3,ptrV b3),(2,ptrV b2)])
    (fun k => [MapA ekN Value.bool bm (banM g (S.take k)),Blk b7 94 [.map (some bm)],Blk b6 36 (encSc (s,x)),Blk b3 28 (gameC g),Blk b2 22 [.slice A n c]]) (fun _ => h4) 0 (by omega) QS QT rfl ?_
  rintro k hk ih
  by_cases hkn : k < S.length
  · have a1:=hsS.addrD hkn
    have c1:=hsS.cellsD su0 hkn
    have et:=take7 su0 (xs:=S) rfl hkn
    generalize S.getD k su0 = z at *
    have hsn:=banM_snoc g (S.take k) z
    rw [← et] at hsn
    have h9:=ih (k + 1) (by omega) (by omega)
    rw [hsn] at h9
    generalize banM g (S.take k) = mm at *
    have hge:=game_eq z.g g
    clear ih hsn et hsc hsu
    by_cases hzg : z.g = g
    · rw [if_pos hzg] at h9
      rw [decide_eq_true hzg] at hge
      repeat' (first|apply GO_seq|apply GO_skip|apply GO_inBlock|apply GO_block|apply GO_region|apply GOl_nil|(apply GOl_add;(iterate 3 exact rfl);omega;exact rfl;exact rfl)|(apply GOl_pv;(iterate 3 exact rfl))|(apply GOl_load;exact rfl;exact Ld_blk rfl QM rfl;exact rfl;exact rfl)|(apply GOl_ov;exact rfl;exact rfl;(first|(apply OV_idxS (j:=k);(iterate 5 exact rfl);exact a1;(with_reducible exact rfl);omega)|(apply OV_load;exact rfl;exact Lv_ro rfl c1 rfl)|(apply OV_eqlS;exact rfl;exact rfl;exact hge;kernel_rfl;kernel_rfl));exact QA)|(apply GOl_to;(iterate 3 exact rfl);(first|(apply OpTo_store;(iterate 3 exact rfl);exact QR;(iterate 3 exact rfl);skip)|(apply OpTo_alloc;exact rfl;intro b;skip)|(apply OpTo_mapUpdate (ek:=ekN) (ev:=Value.bool) (b:=bm) (m:=mm) (key:=z.p) (u:=true) hK;(iterate 6 exact rfl);exact QR;skip)))|(apply GO_cond;exact rfl;all_goals (intro hc;try simp only [hcS,reduceCtorEq] at hc;try (exfalso;omega))))
      all_goals first
        | (exfalso;omega)
        | (exfalso;simp at hc;done)
        | (refine GO_fit QS QT (h9))
    · rw [if_neg hzg] at h9
      rw [decide_eq_false hzg] at hge
      repeat' (first|apply GO_seq|apply GO_skip|apply GO_inBlock|apply GO_block|apply GO_region|apply GOl_nil|(apply GOl_add;(iterate 3 exact rfl);omega;exact rfl;exact rfl)|(apply GOl_pv;(iterate 3 exact rfl))|(apply GOl_load;exact rfl;exact Ld_blk rfl QM rfl;exact rfl;exact rfl)|(apply GOl_ov;exact rfl;exact rfl;(first|(apply OV_idxS (j:=k);(iterate 5 exact rfl);exact a1;(with_reducible exact rfl);omega)|(apply OV_load;exact rfl;exact Lv_ro rfl c1 rfl)|(apply OV_eqlS;exact rfl;exact rfl;exact hge;kernel_rfl;kernel_rfl));exact QA)|(apply GOl_to;(iterate 3 exact rfl);(first|(apply OpTo_store;(iterate 3 exact rfl);exact QR;(iterate 3 exact rfl);skip)|(apply OpTo_alloc;exact rfl;intro b;skip)))|(apply GO_cond;exact rfl;all_goals (intro hc;try simp only [hcS,reduceCtorEq] at hc;try (exfalso;omega))))
      all_goals first
        | (exfalso;omega)
        | (exfalso;simp at hc;done)
        | (refine GO_fit QS QT (h9))
  · rw [List.take_of_length_le (by omega)]
    clear ih hsc hsu
    have hban:=banM_is g S
    have hle0 : Le h h4:=(by first|exact Le.refl _|assumption|(repeat (first|assumption|(apply Le.trans;assumption))))
    have hhs:=(hs1.hs.le hle4)
    have has':=(hs1.asn.le hle4)
    have hn1:=hs1.hs.len
    have hn2:=hs1.asn.len
    generalize banM g S = mm at *
    refine GO_relB (b:=b2) (e:=22) QK ?_
    intro q1 hq1 d2
    refine GO_relB (b:=b6) (e:=36) QK ?_
    intro q2 hq2 d6
    refine GO_relB (b:=b7) (e:=94) QK ?_
    intro q3 hq3 d7
    refine GO_relB (b:=b3) (e:=28) QK ?_
    intro q4 hq4 d3
    have hle9 : Le h q4:=hle0.trans (hq1.trans (hq2.trans (hq3.trans hq4)))
    have d2:=d2.le (hq2.trans (hq3.trans hq4))
    have d6:=d6.le (hq3.trans hq4)
    have d7:=d7.le hq4
    have hhs:=hhs.le (hq1.trans (hq2.trans (hq3.trans hq4)))
    have has':=has'.le (hq1.trans (hq2.trans (hq3.trans hq4)))
    have hside1:=fun h' (hl : Le q4 h') b10 (h10 : CellsAt h' ⟨b10,0,none⟩ (resV2 b2 b6 b7)) => off4_c h' (hG.le (hle9.trans hl)) A n c l (hx.le (hle9.trans hl)) s.hs.A s.hs.n s.hs.c x.sh.hs (hhs.le hl) (by omega) g.h b2 b6 b7 b10 bm (s,x) (d2.le hl) (d6.le hl) mm (d7.le hl) h10 S g hban
    have hside2:=fun h' (hl : Le q4 h') b10 (h10 : CellsAt h' ⟨b10,0,none⟩ (resV2 b2 b6 b7)) => off4_c h' (hG.le (hle9.trans hl)) A n c l (hx.le (hle9.trans hl)) s.asn.A s.asn.n s.asn.c x.sh.asn (has'.le hl) (by omega) g.a b2 b6 b7 b10 bm (s,x) (d2.le hl) (d6.le hl) mm (d7.le hl) h10 S g hban
    dsimp only at hside1 hside2
    generalize offS (fcs l) S g x.day g.h x.sh.hs = o1 at *
    generalize offS (fcs l) S g x.day g.a x.sh.asn = o2 at *
    clear hx hhs has' hban
    repeat' (first|apply GO_seq|apply GO_region|apply GOl_nil|(apply GO_exit;exact rfl)|(apply GOl_to;(iterate 3 exact rfl);apply OpTo_alloc (e:=97);exact rfl;intro b10)|(apply GOl_pv;(iterate 3 exact rfl))|(apply GOl_to;(iterate 3 exact rfl);(first|(apply OpTo_store;(iterate 3 exact rfl);exact QR;(iterate 3 exact rfl);skip)))|(apply GO_drawp (n:=13) [0,1,2,3,4,5,6,7,8,9,10,11,12,13,14,15] [(0,0),(1,0),(2,0),(3,0),(4,0),(5,0),(7,0),(8,0),(9,0),(10,0),(11,0),(12,0),(6,1),(13,1),(14,0),(15,0)];kernel_rfl)|(apply GP_pv;exact rfl;kernel_rfl;(iterate 3 exact rfl))|(apply GP_ov;exact rfl;kernel_rfl;exact rfl;exact rfl;(first|(apply OV_load;exact rfl;exact Lv_roF rfl (d3.le (by first|exact Le.refl _|assumption|(repeat (first|assumption|(apply Le.trans;assumption))))) rfl)|(apply OV_load;exact rfl;exact Lv_roF2 rfl (d6.le (by first|exact Le.refl _|assumption|(repeat (first|assumption|(apply Le.trans;assumption))))) rfl));exact QA)|(apply GP_real;exact rfl;kernel_rfl;(iterate 3 exact rfl);(first|(refine OpTo_relB (b:=b10) (e:=97) QK ?_;intro h5 hle5 d10;apply OpTo_callPF (f:=32) (fs:=[]) (cs:=[.pointer (some ⟨b10,0,none⟩)]);exact rfl;exact rfl;exact has32;exact hside1 _ (by first|exact Le.refl _|assumption|(repeat (first|assumption|(apply Le.trans;assumption)))) b10 d10;exact QT;rintro v5 Es5 h8 hle8 ⟨A8,c8,rfl,hs8,rfl⟩;refine ⟨hle5.trans hle8,QN,?_⟩)|(apply OpTo_callPF (f:=32) (fs:=[]) (cs:=[.pointer (some ⟨b10,0,none⟩)]);exact rfl;exact rfl;exact has32;exact hside2 _ (by first|exact Le.refl _|assumption|(repeat (first|assumption|(apply Le.trans;assumption)))) b10 (d10.le (by first|exact Le.refl _|assumption|(repeat (first|assumption|(apply Le.trans;assumption)))));exact QT;rintro v6 Es6 h9 hle9' ⟨A9,c9,rfl,hs9,rfl⟩;refine ⟨hle9',QN,?_⟩)))|(apply GP_done;kernel_rfl;exact rfl)|(apply GO_cond;exact rfl;all_goals (intro hc;try simp only [hcS,reduceCtorEq] at hc;try (exfalso;omega))))
    all_goals first
      | (exfalso;omega)
      | (exact GO_retR2 rfl rfl rfl rfl ⟨A8,c8,A9,c9,rfl,hs8.le (by first|exact Le.refl _|assumption|(repeat (first|assumption|(apply Le.trans;assumption)))),hs9⟩)
end Go.Hw

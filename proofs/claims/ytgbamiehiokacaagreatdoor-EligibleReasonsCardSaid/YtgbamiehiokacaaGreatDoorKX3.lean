import Derived.Test.YtgbamiehiokacaaGreatDoorXA
import Derived.Test.YtgbamiehiokacaaGreatDoorHD
set_option linter.unusedVariables false
set_option linter.unusedSimpArgs false
set_option maxRecDepth 100000
set_option maxHeartbeats 8000000
namespace Go.Hw
open Go
attribute [local irreducible] GO GOl GDp Val Fn Res CellsAt ValE Blk OwnS MapA OwnPf Has Yl SepA forceL decC memS suspC suspN suspOne yelC cardsF nextC
open Go.Proofs (Tryz.prog)
theorem idxFS_c (h : Ro) (A : Option Addr) (n c : Nat) (l : List (Fsh × FScore)) (hx : SlOf encSc 15 h A n l) (hn : n ≤ 1000000) (f : FuncId) (fs cs : List Value) (p : Fsh × FScore → Bool) (hh : Has Tryz.prog f)
 (hf : ∀ x ∈ l,Val Tryz.prog f (fs ++ [Value.agg (encSc x).toArray] ++ cs).toArray h (.bool (p x))) :
 Val Tryz.prog 85 #[.slice A n c,.func (.func f) fs.toArray cs.toArray] h (.int .i64 (idx7 p l 0)):=by
 refine Ay (args:=[_,_]) ts_ok Go.Proofs.Tryz.func85 rfl rfl fun w0 X0 => ?_
 have hlen:=hx.len
 repeat' (first|apply Ad|apply Ah|apply Aa|apply Ab|(apply Ac;(iterate 3 exact J)))
 refine Bi (X:=Nat) (fun k => k ≤ n ∧ idx7 p (l.drop k) k = idx7 p l 0) (fun k => n - k) (fun k => [(8,.int .i64 k),(7,.int .i64 n),(0,.slice A n c),(1,.func (.func f) fs.toArray cs.toArray)]) (fun _ => []) (fun _ => h) 0 ⟨by omega,rfl⟩ QS QT rfl ?_
 rintro k ⟨hk,hI⟩ ih
 by_cases hkn : k < n
 · have a1:=hx.addrD hkn
   have c1:=hx.cellsD sc0 hkn
   have hd:=Yx sc0 hlen hkn
   have hv:=hf _ (mem7 sc0 (show k < l.length by omega))
   generalize l.getD k sc0 = x at *
   repeat' (first|apply Ad|apply At|apply Ao|apply Ah|apply Aa|apply Ab|(apply Bg;(iterate 3 exact J);omega;exact J;exact J)|(apply Ac;(iterate 3 exact J))|(apply Bc;exact J;exact J;(first|(apply Bd (j:=k);(iterate 5 exact J);exact a1;(with_reducible exact J);omega)|(apply Au;exact J;exact Bl rfl c1 rfl));exact QA)|(apply Aj;(iterate 3 exact J);(first|(apply Cj (f:=f) (fs:=fs) (cs:=cs);exact J;exact J;exact hh;exact hv;skip)))|(apply Af;exact J;all_goals (intro hc;try simp only [hcS,reduceCtorEq] at hc;try (exfalso;omega)))|(apply Aw;(iterate 3 exact J)))
   · rw [← hI,hd,idx7,if_pos hc]
   · have h3:=ih (k + 1) ⟨by omega,by rw [← hI,hd,idx7,if_neg (by simp [hc])]⟩ (by omega)
     refine Bk QS QT (h3)
 · repeat' (first|apply Ad|apply Aa|apply Ab|(apply Bm;exact J)|(apply Ac;(iterate 3 exact J))|(apply Af;exact J;all_goals (intro hc;try simp only [hcS,reduceCtorEq] at hc;try (exfalso;omega)))|(apply Aw;(iterate 3 exact J)))
   rw [← hI,show k = l.length by omega,List.drop_length];rfl
def playsB (club : Int) (z : FScore) : Bool:=decide (z.sh.g.h = club ∨ z.sh.g.a = club)
theorem susp1_c (h : Ro) (x : Fsh × FScore) (b1 : Nat) (m : Int × Int) (h1 : CellsAt h ⟨b1,0,none⟩ (encM2 m)) : Val Tryz.prog 86 #[.agg (encSc x).toArray,.pointer (some ⟨b1,0,none⟩)] h (.bool (playsB m.2 x.2)):=by
 refine Ay (args:=[_,_]) ts_ok Go.Proofs.Tryz.func86 rfl rfl fun w0 X0 => ?_
 unfold playsB
 repeat' (first|apply Ad|apply Aa|apply Ab|(apply Ar;exact J;exact J)|(apply Ac;(iterate 3 exact J))|(apply Aq;exact J;exact Ba rfl QM rfl;exact J;exact J)|(apply Bc;exact J;exact J;(first|(apply Au;exact J;first|exact Bl rfl (by assumption) rfl|exact Ck rfl (by assumption) rfl|exact Cf rfl (by assumption) rfl|exact Lv_roF3 rfl (by assumption) rfl));exact QA)|(apply Aj;(iterate 3 exact J);(first|(apply Av;exact J;intro b;skip)))|(apply Bb;exact J;exact J;all_goals (intro hc;try simp only [hcS,reduceCtorEq] at hc;try (exfalso;omega)))|(apply Aw;(iterate 3 exact J)))
 all_goals (refine Bx ?_;(try rw [Fk]);grind)
def encSu (s : FSusp) : List Value:=[.int .i64 s.p,.int .i64 s.club,.int .i64 s.g.s,.int .i64 s.g.c,.int .i64 s.g.h,.int .i64 s.g.a]
def CntAt (D : List FScore) (i : Nat) (ms : List (Int × Int)) (m : List (Int × Int)) : Prop:=∀ p,(lookA p m).getD 0 = if p ∈ ms.map (·.1) then yelC (D.take (i + 1)) p else yelC (D.take i) p
theorem cnt_zero {D : List FScore} {i : Nat} {m : List (Int × Int)} (h : ∀ p,(lookA p m).getD 0 = yelC (D.take i) p) : CntAt D i [] m:=fun p => by rw [h p];simp
theorem cnt_step {D : List FScore} {i : Nat} {ms m : List (Int × Int)} {x : Int × Int} {v : Int} (h : CntAt D i ms m) (hv : v = yelC (D.take (i + 1)) x.1) : CntAt D i (ms ++ [x]) (insA x.1 v m):=fun p => by
 rw [Qa,List.map_append]
 have hp:=h p
 by_cases e : x.1 = p
 · subst e;rw [if_pos rfl,hv];simp
 · rw [if_neg e,hp]
   simp only [List.map_cons,List.map_nil,List.mem_append,List.mem_singleton,Ne.symm e,or_false]
theorem cnt_end {D : List FScore} {i : Nat} {m : List (Int × Int)} {x : FScore} (et : D.take (i + 1) = D.take i ++ [x]) (hok : SheetOk x.sh) (hm : IsMem x.sh (memS x.sh)) (h : CntAt D i (memS x.sh) m) (p : Int) : (lookA p m).getD 0 = yelC (D.take (i + 1)) p:=by
 rw [h p]
 split
 · rfl
 · rename_i hp
   rw [et,Nk]
   have h1 : p ∉ x.sh.hs:=fun q => hp (List.mem_map.2 ⟨(p,x.sh.g.h),(hm.2 _).2 (.inl ⟨q,rfl⟩),rfl⟩)
   have h2 : p ∉ x.sh.asn:=fun q => hp (List.mem_map.2 ⟨(p,x.sh.g.a),(hm.2 _).2 (.inr ⟨q,rfl⟩),rfl⟩)
   rw [Zc hok h1 h2]
   simp
theorem cnt_at {D : List FScore} {i : Nat} {ms r m : List (Int × Int)} {x : Int × Int} (hp : (ms ++ x :: r).Pairwise fun a b => a.1 < b.1) (h : CntAt D i ms m) : (lookA x.1 m).getD 0 = yelC (D.take i) x.1:=by
 rw [h x.1,if_neg]
 intro hm
 obtain ⟨y,hy,e⟩:=List.mem_map.1 hm
 have:=(List.pairwise_append.1 hp).2.2 y hy x List.mem_cons_self
 omega
theorem idx_next {ds : List (Fsh × FScore)} {club : Int} : (idx7 (fun x => playsB club x.2) ds 0 = -1 ∧ nextC (ds.map (·.2)) club = none) ∨ ∃ j : Nat,j < ds.length ∧ idx7 (fun x => playsB club x.2) ds 0 = (j : Int) ∧ nextC (ds.map (·.2)) club = some (ds.getD j sc0).2:=by
 have go : ∀ (l : List (Fsh × FScore)) (k : Nat),(idx7 (fun x => playsB club x.2) l k = -1 ∧ nextC (l.map (·.2)) club = none) ∨ ∃ j : Nat,j < l.length ∧ idx7 (fun x => playsB club x.2) l k = ((k + j : Nat) : Int) ∧ nextC (l.map (·.2)) club = some (l.getD j sc0).2:=by
  intro l
  induction l with
  | nil => intro k;exact .inl ⟨rfl,by unfold nextC;rfl⟩
  | cons x r ih =>
    intro k
    unfold idx7 nextC
    rw [List.map_cons,List.find?_cons]
    show ((if playsB club x.2 = true then (k : Int) else idx7 (fun x => playsB club x.2) r (k + 1)) = -1 ∧ _) ∨ _
    cases hb : playsB club x.2 with
    | true =>
      have hb' : decide (x.2.sh.g.h = club ∨ x.2.sh.g.a = club) = true:=hb
      refine .inr ⟨0,by simp,by simp [hb],?_⟩
      rw [hb'];rfl
    | false =>
      have hb' : decide (x.2.sh.g.h = club ∨ x.2.sh.g.a = club) = false:=hb
      rw [hb']
      rcases ih (k + 1) with ⟨e1,e2⟩|⟨j,e1,e2,e3⟩
      · refine .inl ⟨by simpa using e1,?_⟩
        unfold nextC at e2
        exact e2
      · refine .inr ⟨j + 1,by simp;omega,?_,?_⟩
        · simp only [Bool.false_eq_true,if_false]
          rw [e2];congr 1;omega
        · unfold nextC at e3
          simpa using e3
 rcases go ds 0 with h|⟨j,h1,h2,h3⟩
 · exact .inl h
 · exact .inr ⟨j,h1,by rw [h2];congr 1;omega,h3⟩
theorem B7a {pre post : List FScore} {x : FScore} {m : Int × Int} (h : ¬ Earn (yelC pre m.1) (cardsF x.sh m.1).1 (cardsF x.sh m.1).2) : suspOne pre post x m = []:=by unfold suspOne;rw [if_neg h]
theorem Uo {pre post : List FScore} {x : FScore} {m : Int × Int} (h : nextC post m.2 = none) : suspOne pre post x m = []:=by unfold suspOne;rw [h];split <;> rfl
theorem Xq {pre post : List FScore} {x : FScore} {m : Int × Int} {z : FScore} (he : Earn (yelC pre m.1) (cardsF x.sh m.1).1 (cardsF x.sh m.1).2) (h : nextC post m.2 = some z) : suspOne pre post x m = [⟨m.1,m.2,z.sh.g⟩]:=by unfold suspOne;rw [h,if_pos he]
theorem B8a {D : List FScore} (hm : ∀ x ∈ D,SheetOk x.sh ∧ IsMem x.sh (memS x.sh)) {i : Nat} (hi : i < D.length) : (suspAt D i).length ≤ 80:=by
 unfold suspAt
 have hx : D.getD i score0 ∈ D:=mem7 score0 hi
 obtain ⟨h1,h2⟩:=hm _ hx
 exact Nat.le_trans (Mi _ (Xr _ _ _) _) (Aoa h1 h2)
theorem Up {D : List FScore} (hm : ∀ x ∈ D,SheetOk x.sh ∧ IsMem x.sh (memS x.sh)) : ∀ {i : Nat},i ≤ D.length → (suspN D i).length ≤ 80 * i
 | 0,_ => by unfold suspN;simp
 | i + 1,hi => by
   rw [Gy,List.length_append]
   have:=Up hm (i:=i) (by omega)
   have:=B8a hm (i:=i) (by omega)
   omega
theorem suspN_0 (D : List FScore) : suspN D 0 = []:=by unfold suspN;rfl
theorem yelC_0 (p : Int) : yelC [] p = 0:=by unfold yelC;rfl
theorem isMem_of {x : FSheet} (hok : SheetOk x) : IsMem x (memS x):=by
 obtain ⟨ys,hp,hs⟩ : ∃ ys,ys.Perm (memU x) ∧ ys.Pairwise fun a b => a.1 ≤ b.1 :=
  ⟨(memU x).mergeSort fun a b => decide (a.1 ≤ b.1),List.mergeSort_perm _ _,(List.pairwise_mergeSort (le:=fun a b : Int × Int => decide (a.1 ≤ b.1)) (fun a b c h1 h2 => by simp at *;omega) (fun a b => by simp;omega) _).imp fun {a b} q => by simpa using q⟩
 exact (Qm hok hp hs).here
theorem Ex (h : Ro) (hG : PowG h) (A : Option Addr) (n c : Nat) (l : List (Fsh × Fct)) (hx : FactsAt h A n l) (hn6 : n ≤ 65536) (season comp : Int) : Res Tryz.prog 40 #[.slice A n c,.int .i64 season,.int .i64 comp] h (fun u h' => ∃ A' c',u = .slice A' (suspC (decC (fcs l) season comp)).length c' ∧ SlOf encSu 6 h' A' (suspC (decC (fcs l) season comp)).length (suspC (decC (fcs l) season comp)) ∧ (suspC (decC (fcs l) season comp)).length ≤ 10000000):=by
 refine Br (args:=[_,_,_]) ts_ok Go.Proofs.Tryz.func40 rfl rfl fun w0 X0 => ?_
 have h32:=Fh hx
 have hde:=fun h' (hl : Le h h') => decided_c h' (hG.le hl) A n c l (hx.le hl) season comp
 generalize fcs l = L at *
 clear hx
 repeat' (first|apply Ad|apply Ah|apply Aa|apply Ab|(apply Ac;(iterate 3 exact J))|(apply Aj;(iterate 3 exact J);(first|(apply Bf;exact J;exact has82;exact hde _ QL;rintro w1 h1 hle1 ⟨A3,c3,ds,rfl,hsl,hat,hdec,hdn,hnc⟩;skip)|(apply Dk ekN ekN;intro bm;skip))))
 all_goals (try (exfalso;omega))
 rw [← decC_of hdec]
 clear hde
 obtain ⟨D,hD⟩ : ∃ D,D = ds.map (·.2):=⟨_,rfl⟩
 rw [← hD] at hdec ⊢
 have hDl : D.length = ds.length:=by rw [hD,List.length_map]
 have hok : ∀ x ∈ D,SheetOk x.sh ∧ IsMem x.sh (memS x.sh):=fun x hx => ⟨(hdec.ok h32 hx).sheet,isMem_of (hdec.ok h32 hx).sheet⟩
 have hK:=KN
 refine Cz 88 6 ?_
 refine Bi (X:=Nat × List FSusp × Option Addr × Nat × List (Int × Int) × Ro) (fun x => x.1 ≤ ds.length ∧ Le h1 x.2.2.2.2.2 ∧ x.2.1 = suspN D x.1 ∧ ∀ p,(lookA p x.2.2.2.2.1).getD 0 = yelC (D.take x.1) p) (fun x => ds.length - x.1)
  (fun x => [(24,.int .i64 x.1),(23,.int .i64 ds.length),(22,.slice A3 ds.length c3),(7,.slice A3 ds.length c3),(8,.map (some bm)),(6,.slice x.2.2.1 x.2.1.length x.2.2.2.1)])
  (fun x => [OwnS 88 6 (.slice x.2.2.1 x.2.1.length x.2.2.2.1) x.2.1.length (x.2.1.flatMap encSu),MapA ekN ekN bm x.2.2.2.2.1]) (fun x => x.2.2.2.2.2) (0,[],none,0,[],h1) ⟨by dsimp only;omega,Le.refl _,by rw [suspN_0],fun p => by rw [List.take_zero,yelC_0];rfl⟩ QS QT rfl ?_
 rintro ⟨i,out,A4,c4,m,hh⟩ ⟨hi,hle,ho,hm⟩ ih
 dsimp only at hi hle ho hm ih ⊢
 have hol:=Up hok (i:=i) (by omega)
 rw [← ho] at hol
 by_cases hin : i < ds.length
 · have a1:=hsl.addrD hin
   have c1:=(hsl.cellsD sc0 hin).le hle
   have hsl':=hsl.le hle
   have hax:=(hat _ (mem7 sc0 hin)).le hle
   have hDx : D.getD i score0 = (ds.getD i sc0).2:=by rw [hD];simp [List.getD,List.getElem?_eq_getElem hin]
   have et:=Cr score0 (xs:=D) rfl (show i < D.length by omega)
   have hoX:=hok _ (mem7 score0 (show i < D.length by omega))
   have hsA : suspN D (i + 1) = suspN D i ++ (memS (D.getD i score0).sh).flatMap (suspOne (D.take i) (D.drop (i + 1)) (D.getD i score0)):=Gy D i
   rw [hDx] at et hoX hsA
   have hpost : D.drop (i + 1) = (ds.drop (i + 1)).map (·.2):=by rw [hD,List.map_drop]
   have hlow:=hsl'.low (lo:=i + 1) (c:=c3) (by omega) hnc
   generalize ds.getD i sc0 = x at *
   obtain ⟨s,x⟩:=x
   dsimp only at et hoX hsA hax
   have hxs:=hax.1
   have hlc : x.sh.hc.length ≤ 1000 ∧ x.sh.ac.length ≤ 1000:=by
    have h1:=hoX.1.2.2.2.2.2.2.2.1.1
    have h2:=hoX.1.2.2.2.2.2.2.2.2.1.1
    omega
   have hpw:=hoX.2.1
   have hml:=Aoa hoX.1 hoX.2
   repeat' (first|apply Ad|apply At|apply Ah|apply Aa|apply Ab|(apply Aj;(iterate 3 exact J);apply Ai (e:=84);exact J;intro b10)|(apply Ac;(iterate 3 exact J))|(apply Aq;exact J;exact Ba rfl QM rfl;exact J;exact J)|(apply Bc;exact J;exact J;(first|(apply Bd (j:=i);(iterate 5 exact J);exact a1;(with_reducible exact J);omega)|(apply Au;exact J;exact Bl rfl c1 rfl));exact QA)|(apply Aj;(iterate 3 exact J);(first|(apply Ag;(iterate 3 exact J);exact QR;(iterate 3 exact J);skip)|(apply Bo;exact J;exact has83;exact shownE_c _ s x.sh (hxs.le QL) hlc;exact QT;rintro vs Es2 h2 hle2 ⟨bg,mg,rfl,rfl,hmg⟩;skip)|(apply Bf;exact J;exact has84;exact members_c _ s x.sh (hxs.le QL) hoX.1;rintro vm h3 hle3 ⟨A5,c5,rfl,hms,_⟩;skip)))|(apply Af;exact J;all_goals (intro hc;try simp only [hcS,reduceCtorEq] at hc;try (exfalso;omega))))
   all_goals (try (exfalso;omega))
   obtain ⟨ms,hmsE⟩ : ∃ ms,ms = memS x.sh:=⟨_,rfl⟩
   have hend:=fun q (hq : CntAt D i (memS x.sh) q) => cnt_end (m:=q) et hoX.1 hoX.2 hq
   rw [← hmsE] at hms hsA hpw hml hend ⊢
   have hlei : Le hh h3:=QL
   have hsl3:=hsl'.le hlei
   have hlow3:=hlow.le hlei
   refine Bi (X:=Nat × List FSusp × Option Addr × Nat × List (Int × Int) × Ro) (fun y => y.1 ≤ ms.length ∧ Le h3 y.2.2.2.2.2 ∧ y.2.1 = suspN D i ++ (ms.take y.1).flatMap (suspOne (D.take i) (D.drop (i + 1)) x) ∧ y.2.1.length ≤ out.length + y.1 ∧ CntAt D i (ms.take y.1) y.2.2.2.2.1) (fun y => ms.length - y.1)
    (fun y => [(36,.int .i64 y.1),(35,.int .i64 ms.length),(34,.slice A5 ms.length c5),(11,.map (some bg)),(9,.int .i64 i),(24,.int .i64 i),(23,.int .i64 ds.length),(22,.slice A3 ds.length c3),(7,.slice A3 ds.length c3),(8,.map (some bm)),(6,.slice y.2.2.1 y.2.1.length y.2.2.2.1)])
    (fun y => [OwnS 88 6 (.slice y.2.2.1 y.2.1.length y.2.2.2.1) y.2.1.length (y.2.1.flatMap encSu),MapA ekN ekN bm y.2.2.2.2.1,MapA ekN evCd bg mg]) (fun y => y.2.2.2.2.2) (0,out,A4,c4,m,h3) ⟨by dsimp only;omega,Le.refl _,by rw [ho];simp,by dsimp only;omega,by rw [List.take_zero];exact cnt_zero hm⟩ QS QT rfl ?_
   rintro ⟨j,ou,A6,c6,mc,h4⟩ ⟨hj,hle4,ho4,hol4,hcn⟩ ih2
   dsimp only at hj hle4 ho4 hol4 hcn ih2 ⊢
   by_cases hjn : j < ms.length
   · have a2:=hms.addrD hjn
     have c2:=(hms.cellsD m0 hjn).le hle4
     have et2:=Cr m0 (xs:=ms) rfl hjn
     have hsp:=Fu m0 (l:=ms) rfl hjn
     rw [hsp] at hpw
     generalize ms.getD j m0 = y at *
     obtain ⟨p,cl⟩:=y
     have hq1:=hmg p
     have hq2:=cnt_at hpw hcn
     have hst:=fun v (hv : v = yelC (D.take (i + 1)) p) => cnt_step (x:=(p,cl)) (v:=v) hcn hv
     have hy:=Nk (D.take i) x p
     rw [← et] at hy
     have hb1:=yelC_bd (D.take i) p
     have hb2:=Ws x.sh p
     have hno:=B7a (pre:=D.take i) (post:=D.drop (i + 1)) (x:=x) (m:=(p,cl))
     have hnn:=Uo (pre:=D.take i) (post:=D.drop (i + 1)) (x:=x) (m:=(p,cl))
     have hye:=fun z => Xq (pre:=D.take i) (post:=D.drop (i + 1)) (x:=x) (m:=(p,cl)) (z:=z)
     have hfm : (ms.take (j + 1)).flatMap (suspOne (D.take i) (D.drop (i + 1)) x) = (ms.take j).flatMap (suspOne (D.take i) (D.drop (i + 1)) x) ++ suspOne (D.take i) (D.drop (i + 1)) x (p,cl):=by rw [et2,List.flatMap_append];simp
     rw [List.length_take] at hb1
     dsimp only at hq2 hst hno hnn hye c2
     rw [hpost] at hno hnn hye hfm
     generalize cardsF x.sh p = q at *
     generalize yelC (D.take (i + 1)) p = y1 at *
     generalize yelC (D.take i) p = y0 at *
     obtain ⟨qy,qr⟩:=q
     dsimp only at hq1 hb2 hno hnn hye hy
     have hl2 : (lookA p (insA p (y0 + qy) mc)).getD 0 = y0 + qy:=by rw [Qa,if_pos rfl];rfl
     have hst1:=hst (y0 + qy) hy.symm
     have hcont:=fun ou' A' c' h' (hl : Le h4 h') (he : ou' = ou ++ suspOne (D.take i) ((ds.drop (i + 1)).map (·.2)) x (p,cl)) (hl2 : ou'.length ≤ ou.length + 1) => ih2 (j + 1,ou',A',c',insA p (y0 + qy) mc,h') ⟨by dsimp only;omega,hle4.trans hl,by dsimp only;rw [he,ho4,hpost,hfm,List.append_assoc],by dsimp only;omega,by dsimp only;rw [et2];exact hst1⟩ (by dsimp only;omega)
     dsimp only at hcont
     have hix : ∀ (h' : Ro) (b13 : Nat),Le h4 h' → CellsAt h' ⟨b13,0,none⟩ (encM2 (p,cl)) → Val Tryz.prog 85 #[.slice (sliceA A3 c3 (i + 1) 15) (ds.length - (i + 1)) (c3 - (i + 1)),.func (.func 86) #[] #[.pointer (some ⟨b13,0,none⟩)]] h' (.int .i64 (idx7 (fun x => playsB cl x.2) (ds.drop (i + 1)) 0)):=fun h' b13 hl hc13 =>
      idxFS_c h' _ _ _ _ (hlow3.le (hle4.trans hl)) (by omega) 86 [] [.pointer (some ⟨b13,0,none⟩)] (fun x => playsB cl x.2) has86 (fun x _ => susp1_c h' x b13 (p,cl) hc13)
     rcases idx_next (ds:=ds.drop (i + 1)) (club:=cl) with ⟨e1,e2⟩|⟨nx,e0,e1,e2⟩
     · rw [e1] at hix
       have hsu:=hnn e2
       have hou : ou = ou ++ suspOne (D.take i) ((ds.drop (i + 1)).map (·.2)) x (p,cl):=by rw [hsu,List.append_nil]
       clear hno hye hnn
       cases qr
       all_goals (repeat' (first|apply Ad|apply At|apply Ao|apply Ah|apply Aa|apply Ab|(apply Bm;exact J)|(apply Aj;(iterate 3 exact J);apply Ai (e:=140);exact J;intro b13)|(apply Aj;(iterate 3 exact J);apply Ai (e:=142);exact J;intro b14)|(apply Bc;exact J;exact J;(apply El (ek:=ekN) (ev:=evCd) (z0:=(0,false)) (key:=p) (b:=bg) (m:=mg) hK;(iterate 6 exact J);exact hq1);focus ((repeat' (first|exact trivial|apply And.intro|exact List.Mem.head _|apply List.Mem.tail));done))|(apply Bc;exact J;exact J;(apply El (ek:=ekN) (ev:=ekN) (z0:=(0 : Int)) (key:=p) (b:=bm) (m:=mc) hK;(iterate 6 exact J);exact hq2);focus ((repeat' (first|exact trivial|apply And.intro|exact List.Mem.head _|apply List.Mem.tail));done))|(apply Bc;exact J;exact J;(apply El (ek:=ekN) (ev:=ekN) (z0:=(0 : Int)) (key:=p) (b:=bm) (m:=insA p (y0 + qy) mc) hK;(iterate 6 exact J);exact hl2);focus ((repeat' (first|exact trivial|apply And.intro|exact List.Mem.head _|apply List.Mem.tail));done))|(apply Bc;exact J;exact J;(first|(apply Jx;(iterate 3 exact J);omega;omega));exact QA)|(apply Ar;exact J;exact J)|(apply Bg;(iterate 3 exact J);omega;exact J;exact J)|(apply Ac;(iterate 3 exact J))|(apply Aq;exact J;exact Ba rfl QM rfl;exact J;exact J)|(apply Bc;exact J;exact J;(first|(apply Bd (j:=j);(iterate 5 exact J);exact a2;(with_reducible exact J);omega)|(apply Au;exact J;exact Bl rfl c2 rfl)|(apply Ep (lo:=i + 1) (n:=ds.length) (c:=c3);(iterate 5 exact J);omega;omega));exact QA)|(apply Aj;(iterate 3 exact J);(first|(apply Ag;(iterate 3 exact J);exact QR;(iterate 3 exact J);skip)|(apply Co (ek:=ekN) (ev:=ekN) (b:=bm) (m:=mc) (key:=p) (u:=y0 + qy) hK;(iterate 6 exact J);exact QR;skip)|(refine Ch (b:=b13) (e:=140) QK ?_;intro h5 hle5 hc13;apply Ap;exact J;exact has85;exact hix _ b13 QL hc13;skip)))|(apply Af;exact J;all_goals (intro hc;try simp only [hcS,reduceCtorEq] at hc;try (exfalso;omega)))))
       all_goals first
        | (exfalso;omega)
        | (exfalso;simp at hc;done)
        | (have h6:=hcont _ A6 c6 _ hle5 hou (by omega)
           refine Bk QS QT (h6))
        | (have h6:=hcont _ A6 c6 _ (Le.refl _) hou (by omega)
           refine Bk QS QT (h6))
     · rw [e1] at hix
       rw [List.length_drop] at e0
       have hnxt:=hsl3.addrD (show i + 1 + nx < ds.length by omega)
       have cN : CellsAt h4 ((addrD A3).add ((i + 1 + nx) * ty84.size)) (encSc (ds.getD (i + 1 + nx) sc0)):=(hsl3.cellsD sc0 (show i + 1 + nx < ds.length by omega)).le hle4
       have hgz : (ds.drop (i + 1)).getD nx sc0 = ds.getD (i + 1 + nx) sc0:=by simp [List.getD]
       rw [hgz] at e2
       generalize ds.getD (i + 1 + nx) sc0 = z at *
       clear hnn hgz
       by_cases hE : Earn y0 qy qr
       · have hsu:=hye _ hE e2
         clear hno hye
         cases qr
         case' false => have hE2:=hE.resolve_left (by simp)
         all_goals (repeat' (first|apply Ad|apply At|apply Ao|apply Ah|apply Aa|apply Ab|(apply Aj;(iterate 3 exact J);apply Ai (e:=140);exact J;intro b13)|(apply Aj;(iterate 3 exact J);apply Ai (e:=142);exact J;intro b14)|(apply Bc;exact J;exact J;(apply El (ek:=ekN) (ev:=evCd) (z0:=(0,false)) (key:=p) (b:=bg) (m:=mg) hK;(iterate 6 exact J);exact hq1);focus ((repeat' (first|exact trivial|apply And.intro|exact List.Mem.head _|apply List.Mem.tail));done))|(apply Bc;exact J;exact J;(apply El (ek:=ekN) (ev:=ekN) (z0:=(0 : Int)) (key:=p) (b:=bm) (m:=mc) hK;(iterate 6 exact J);exact hq2);focus ((repeat' (first|exact trivial|apply And.intro|exact List.Mem.head _|apply List.Mem.tail));done))|(apply Bc;exact J;exact J;(apply El (ek:=ekN) (ev:=ekN) (z0:=(0 : Int)) (key:=p) (b:=bm) (m:=insA p (y0 + qy) mc) hK;(iterate 6 exact J);exact hl2);focus ((repeat' (first|exact trivial|apply And.intro|exact List.Mem.head _|apply List.Mem.tail));done))|(apply Bc;exact J;exact J;(first|(apply Jx;(iterate 3 exact J);omega;omega));exact QA)|(apply Ar;exact J;exact J)|(apply Bg;(iterate 3 exact J);omega;exact J;exact J)|(apply Ac;(iterate 3 exact J))|(apply Aq;exact J;exact Ba rfl QM rfl;exact J;exact J)|(apply Bc;exact J;exact J;(first|(apply Bd (j:=j);(iterate 5 exact J);exact a2;(with_reducible exact J);omega)|(apply Au;exact J;exact Bl rfl c2 rfl)|(apply Ep (lo:=i + 1) (n:=ds.length) (c:=c3);(iterate 5 exact J);omega;omega));exact QA)|(apply Aj;(iterate 3 exact J);(first|(apply Ag;(iterate 3 exact J);exact QR;(iterate 3 exact J);skip)|(apply Co (ek:=ekN) (ev:=ekN) (b:=bm) (m:=mc) (key:=p) (u:=y0 + qy) hK;(iterate 6 exact J);exact QR;skip)|(refine Ch (b:=b13) (e:=140) QK ?_;intro h5 hle5 hc13;apply Ap;exact J;exact has85;exact hix _ b13 QL hc13;skip)))|(apply Bh (n:=16) [0,1,2,3,4,5,6,7,8,9,10,11,12,13,14,15,16,17] [(0,0),(1,0),(2,0),(3,0),(4,0),(5,0),(6,0),(7,0),(8,0),(9,0),(10,0),(11,0),(12,0),(13,0),(14,0),(15,1),(16,1),(17,0)];kernel_rfl)|(apply Xh;exact J;kernel_rfl;(iterate 5 exact J);omega)|(apply Ca;exact J;kernel_rfl;(iterate 3 exact J))|(apply Ci;exact J;kernel_rfl;exact J;exact J;(first|(apply Bd (j:=i + 1 + nx) (n:=ds.length) (A:=A3);(iterate 5 exact J);exact hnxt;omega;omega)|(apply Au;exact J;apply Cf;exact J;exact cN.le QL;exact J)|(apply Au;exact J;exact Ck rfl hc13 rfl));exact QA)|(apply Bt;exact J;kernel_rfl;(iterate 3 exact J);(first|(apply Az (enc:=encSu) (n:=1) [⟨p,cl,z.2.sh.g⟩];(iterate 3 exact J);exact List.cons_ne_nil _ _;(iterate 4 exact J);exact fun _ => rfl;exact J;exact J;intro b9 h9 hle9 hs9;refine ⟨hle9,QN,?_⟩)|(apply Bj (enc:=encSu) (xs:=ou);(iterate 7 exact J);exact hs9;exact fun _ => rfl;exact fun x => Bz rfl;intro v1;exact QR;omega;exact J;intro A9 c9;refine ⟨Le.refl _,QN,?_⟩)))|(apply Bn;kernel_rfl;exact J)|(apply Af;exact J;all_goals (intro hc;try simp only [hcS,reduceCtorEq] at hc;try (exfalso;omega)))))
         all_goals first
          | (exfalso;omega)
          | (exfalso;simp at hc;done)
          | (have h6:=hcont (ou ++ [⟨p,cl,z.2.sh.g⟩]) A9 c9 h9 (hle5.trans hle9) (by rw [hsu]) (by simp)
             rw [List.length_append] at h6
             refine Bk QS QT (h6))
       · have hsu:=hno hE
         have hou : ou = ou ++ suspOne (D.take i) ((ds.drop (i + 1)).map (·.2)) x (p,cl):=by rw [hsu,List.append_nil]
         clear hno hye
         cases qr
         case' true => exact absurd (.inl rfl) hE
         have hE2 : (y0 + qy) / 5 = y0 / 5:=Classical.byContradiction fun w => hE (.inr w)
         repeat' (first|apply Ad|apply At|apply Ah|apply Aa|apply Ab|(apply Bm;exact J)|(apply Aj;(iterate 3 exact J);apply Ai (e:=140);exact J;intro b13)|(apply Aj;(iterate 3 exact J);apply Ai (e:=142);exact J;intro b14)|(apply Bc;exact J;exact J;(apply El (ek:=ekN) (ev:=evCd) (z0:=(0,false)) (key:=p) (b:=bg) (m:=mg) hK;(iterate 6 exact J);exact hq1);focus ((repeat' (first|exact trivial|apply And.intro|exact List.Mem.head _|apply List.Mem.tail));done))|(apply Bc;exact J;exact J;(apply El (ek:=ekN) (ev:=ekN) (z0:=(0 : Int)) (key:=p) (b:=bm) (m:=mc) hK;(iterate 6 exact J);exact hq2);focus ((repeat' (first|exact trivial|apply And.intro|exact List.Mem.head _|apply List.Mem.tail));done))|(apply Bc;exact J;exact J;(apply El (ek:=ekN) (ev:=ekN) (z0:=(0 : Int)) (key:=p) (b:=bm) (m:=insA p (y0 + qy) mc) hK;(iterate 6 exact J);exact hl2);focus ((repeat' (first|exact trivial|apply And.intro|exact List.Mem.head _|apply List.Mem.tail));done))|(apply Bc;exact J;exact J;(first|(apply Jx;(iterate 3 exact J);omega;omega));exact QA)|(apply Bg;(iterate 3 exact J);omega;exact J;exact J)|(apply Ac;(iterate 3 exact J))|(apply Aq;exact J;exact Ba rfl QM rfl;exact J;exact J)|(apply Bc;exact J;exact J;(first|(apply Bd (j:=j);(iterate 5 exact J);exact a2;(with_reducible exact J);omega)|(apply Au;exact J;exact Bl rfl c2 rfl));exact QA)|(apply Aj;(iterate 3 exact J);(first|(apply Ag;(iterate 3 exact J);exact QR;(iterate 3 exact J);skip)|(apply Co (ek:=ekN) (ev:=ekN) (b:=bm) (m:=mc) (key:=p) (u:=y0 + qy) hK;(iterate 6 exact J);exact QR;skip)))|(apply Af;exact J;all_goals (intro hc;try simp only [hcS,reduceCtorEq] at hc;try (exfalso;omega))))
         all_goals first
          | (exfalso;omega)
          | (exfalso;simp at hc;done)
          | (have h6:=hcont _ A6 c6 _ hle5 hou (by omega)
             refine Bk QS QT (h6))
          | (have h6:=hcont _ A6 c6 _ (Le.refl _) hou (by omega)
             refine Bk QS QT (h6))
   · rw [show ms.take j = ms from List.take_of_length_le (by omega)] at ho4 hcn
     rw [← hsA] at ho4
     have hcm:=hend _ hcn
     have h6:=ih (i + 1,ou,A6,c6,mc,h4) ⟨by dsimp only;omega,QL,ho4,hcm⟩ (by dsimp only;omega)
     dsimp only at h6
     clear ih ih2
     repeat' (first|apply Ad|apply Ao|apply Aa|apply Ab|(apply Bm;exact J)|(apply Bg;(iterate 3 exact J);omega;exact J;exact J)|(apply Ac;(iterate 3 exact J))|(apply Af;exact J;all_goals (intro hc;try simp only [hcS,reduceCtorEq] at hc;try (exfalso;omega))))
     all_goals first
      | (exfalso;omega)
      | (refine Bk QS QT (h6))
 · have hil : i = ds.length:=by omega
   have hsc : suspC D = out:=by
    rw [ho,hil,← hDl]
    unfold suspC;rfl
   rw [hsc]
   clear ih
   refine Dg (enc:=encSu) (e:=88) (sz:=6) (n:=out.length) (xs:=out) (fun _ => rfl) rfl QK ?_
   intro A7 c7 h7 hle7 e7 hnc7 hs7
   cases e7
   repeat' (first|apply Ad|apply Aa|apply Ab|(apply Bm;exact J)|(apply Ac;(iterate 3 exact J))|(apply Af;exact J;all_goals (intro hc;try simp only [hcS,reduceCtorEq] at hc;try (exfalso;omega))))
   all_goals first
    | (exfalso;omega)
    | (exact Bv rfl rfl rfl ⟨A4,c4,rfl,hs7,by omega⟩)
end Go.Hw

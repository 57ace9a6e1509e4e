import Derived.Test.YtlnenhhbalpbpaaGreatDoorVA
import Derived.Test.YtlnenhhbalpbpaaGreatDoorFC
set_option linter.unusedVariables false
set_option linter.unusedSimpArgs false
set_option maxRecDepth 100000
set_option maxHeartbeats 8000000
namespace Go.Hw
open Go
attribute [local irreducible] GO GOl GDp Val Fn Res CellsAt ValE Blk OwnS MapA OwnPf Has Yl SepA RngA
open Go.Proofs (Tryz.prog)
structure FilesAt (h : Ro) (C : List Fct) (bs : List FileS) : Prop where
  nums : bs.map (·.num) = casesL C
  at_ : ∀ x ∈ bs,FileAt h x
  rs : ∀ x ∈ bs,fcs x.rs = C.filter fun f => decide (OfCase x.num f)
  sus : ∀ x ∈ bs,∀ i,i < 4 → (x.s.getD i false = true ↔ SuspIn C x.num i)
  small : bs.length ≤ 1000000
  sum : (bs.map fun x => x.rs.length).sum ≤ 1000000
  ok : ∀ f ∈ C,FctOk f
theorem FilesAt.le {h h' : Ro} {C : List Fct} {bs : List FileS} (a : FilesAt h C bs) (hl : Le h h') : FilesAt h' C bs:=⟨a.nums,fun x hx => (a.at_ x hx).le hl,a.rs,a.sus,a.small,a.sum,a.ok⟩
open Classical in
noncomputable def validP (l : List (Fsh × Fct)) : List (Fsh × Fct):=l.filter fun p => decide (K45 p.2 ∧ FctOk p.2)
open Classical in
theorem validP_snoc (l : List (Fsh × Fct)) (p : Fsh × Fct) : validP (l ++ [p]) = if K45 p.2 ∧ FctOk p.2 then validP l ++ [p] else validP l:=by
  unfold validP
  rw [List.filter_append]
  by_cases h : K45 p.2 ∧ FctOk p.2 <;> simp [h]
open Classical in
theorem validP_mem {l : List (Fsh × Fct)} {p : Fsh × Fct} : p ∈ validP l ↔ p ∈ l ∧ K45 p.2 ∧ FctOk p.2:=by
  unfold validP;rw [List.mem_filter,decide_eq_true_eq]
theorem validP_canon {l : List (Fsh × Fct)} (h32 : In32 (fcs l)) : canonL (fcs (validP l)) = caseF (canonL (fcs l)):=by
  rw [← canon_case h32]
  refine canonL_ext (fun f hf => ?_) (fun f hf => h32 f (List.mem_filter.1 hf).1) fun x hx => ?_
  · obtain ⟨p,hp,rfl⟩:=List.mem_map.1 hf
    exact h32 _ (List.mem_map_of_mem (validP_mem.1 hp).1)
  · unfold caseF fcs
    rw [List.mem_filter,List.mem_map,List.mem_map]
    constructor
    · rintro ⟨p,hp,rfl⟩
      have:=validP_mem.1 hp
      exact ⟨⟨p,this.1,rfl⟩,decide_eq_true this.2.1⟩
    · rintro ⟨⟨p,hp,rfl⟩,h45⟩
      exact ⟨p,validP_mem.2 ⟨hp,of_decide_eq_true h45,hx⟩,rfl⟩
theorem fmap7_split : ∀ {R : List FileS} {r1 r2 : List (Int × Nat)} {q : Int × Nat},fmap7 R = r1 ++ q :: r2 → ∃ s1 y s2,R = s1 ++ y :: s2 ∧ r1 = fmap7 s1 ∧ q = (y.num,y.b) ∧ r2 = fmap7 s2:=fun {R r1 r2 q} h => by
  unfold fmap7 at *
  obtain ⟨s1,t,e1,e2,e3⟩:=List.map_eq_append_iff.1 h
  obtain ⟨y,s2,e4,e5,e6⟩:=List.map_eq_cons_iff.1 e3
  exact ⟨s1,y,s2,by rw [e1,e4],e2.symm,e5.symm,e6.symm⟩
theorem files_free {fs : List FileS} {D : List Nat} {m : Ro} (h : (SepA (fs.flatMap fileA)).holds D m) : ∀ x ∈ fs,CellsAt m ⟨x.b,0,none⟩ (fileC x) ∧ SlOf encF82 82 m x.A x.rs.length x.rs:=fun x hx => by
  have h1:=SepA.each h
  obtain ⟨D1,a1⟩:=h1 (Blk x.b 181 (fileC x)) (List.mem_flatMap.2 ⟨x,hx,by simp⟩)
  obtain ⟨D2,a2⟩:=h1 (OwnS 57 82 (.slice x.A x.rs.length x.c) x.rs.length (x.rs.flatMap encF82)) (List.mem_flatMap.2 ⟨x,hx,by simp⟩)
  obtain ⟨A,c,e1,_,e3⟩:=OwnS_free' encF82_len rfl a2
  injection e1 with e1 _ _
  subst e1
  unfold Blk at a1
  exact ⟨blk_at a1.2,e3⟩
theorem FilesInv.nums_len {C : List (Fsh × Fct)} {fs : List FileS} (h : FilesInv C fs) {x : FileS} (hx : x ∈ fs) : x.rs.length ≤ C.length:=by
  rw [h.rs x hx];exact List.length_filter_le _ _
def neF (x : FileS) : Bool:=!x.rs.isEmpty
theorem neF_pos {x : FileS} : neF x = true ↔ 0 < x.rs.length:=by
  unfold neF
  cases x.rs <;> simp
theorem files_out {h : Ro} {zs : List (Fsh × Fct)} {C : List Fct} {fs ys : List FileS} (hz : fcs zs = caseF C) (hi : FilesInv zs fs) (hp : ys.Perm (fs.filter neF)) (hs : ys.Pairwise fun x y => x.num < y.num) (hok : ∀ f ∈ C,FctOk f) (hn : zs.length ≤ 1000000) (ha : ∀ x ∈ fs,FileAt h x) (hfl : fs.length ≤ 1000000) : FilesAt h C ys where
  nums:=by
    have:=files_cases hi hp (hs.imp fun {a b} q => Int.le_of_lt q)
    rw [this,hz,casesL_45]
  at_ x hx:=ha x (List.mem_filter.1 (hp.mem_iff.1 hx)).1
  rs x hx:=by
    have h1:=hi.rs x (List.mem_filter.1 (hp.mem_iff.1 hx)).1
    rw [h1]
    have h2 : fcs (zs.filter fun p => decide (OfCase x.num p.2)) = (fcs zs).filter fun f => decide (OfCase x.num f):=by unfold fcs;rw [List.filter_map];rfl
    rw [h2,hz]
    unfold caseF
    rw [List.filter_filter]
    refine List.filter_congr fun f _ => ?_
    by_cases h9 : OfCase x.num f
    · simp [h9,h9.k45]
    · simp [h9]
  sus x hx i h4:=by
    rw [hi.sus x (List.mem_filter.1 (hp.mem_iff.1 hx)).1 i h4,hz]
    unfold SuspIn caseF
    exact ⟨fun ⟨f,hf,q⟩ => ⟨f,(List.mem_filter.1 hf).1,q⟩,fun ⟨f,hf,q⟩ => ⟨f,List.mem_filter.2 ⟨hf,decide_eq_true (.inr q.1)⟩,q⟩⟩
  small:=by
    rw [hp.length_eq]
    exact Nat.le_trans (List.length_filter_le _ _) hfl
  sum:=by
    have e1 : (ys.map fun x => x.rs.length) = (ys.map (·.num)).map fun n => (zs.filter fun p => decide (OfCase n p.2)).length:=by
      rw [List.map_map]
      refine List.map_congr_left fun x hx => ?_
      show x.rs.length = _
      rw [hi.rs x (List.mem_filter.1 (hp.mem_iff.1 hx)).1];rfl
    have hnd : (ys.map (·.num)).Nodup:=(hs.imp fun {a b} q => Int.ne_of_lt q) |> List.pairwise_map.2
    rw [e1]
    exact Nat.le_trans (files_sum hnd zs) hn
  ok:=hok
end Go.Hw
set_option linter.unusedVariables false
set_option linter.unusedSimpArgs false
set_option maxRecDepth 100000
set_option maxHeartbeats 8000000
namespace Go.Hw
open Go
attribute [local irreducible] GO GOl GDp Val Fn Res CellsAt ValE Blk OwnS MapA OwnPf Has Yl SepA RngA validP fmap7 neF
open Go.Proofs (Tryz.prog)
theorem fmap7_mid (pre post : List FileS) (x y : FileS) (hn : y.num = x.num) (hb : y.b = x.b) : fmap7 (pre ++ y :: post) = fmap7 (pre ++ x :: post):=by unfold fmap7;simp [hn,hb]
theorem fmap7_0 : fmap7 [] = []:=by unfold fmap7;rfl
theorem fileC_set (x : FileS) (j : Nat) : (fileC x).set (2 + j) (.bool true) = fileC ⟨x.b,x.num,x.A,x.c,x.rs,x.s.set j true⟩:=by
  show (Value.int .i64 x.num :: Value.slice x.A x.rs.length x.c :: x.s.map .bool).set (2 + j) _ = Value.int .i64 x.num :: Value.slice x.A x.rs.length x.c :: (x.s.set j true).map .bool
  rw [show 2 + j = j + 1 + 1 by omega,List.set_cons_succ,List.set_cons_succ,List.map_set]
open Classical in
theorem validP_len (l : List (Fsh × Fct)) : (validP l).length ≤ l.length:=by unfold validP;exact List.length_filter_le _ _
theorem validP_0 : validP [] = []:=by unfold validP;rfl
theorem fmap7_app (a b : List FileS) : fmap7 (a ++ b) = fmap7 a ++ fmap7 b:=by unfold fmap7;rw [List.map_append]
theorem fmap7_nil {a : List FileS} (h : fmap7 a = []) : a = []:=by unfold fmap7 at h;exact List.map_eq_nil_iff.1 h
theorem perm_y {out s1 s2 T : List FileS} {y : FileS} (h : (out ++ (s1 ++ y :: s2).filter neF).Perm T) (hy : neF y = true) : ((out ++ [y]) ++ (s1 ++ s2).filter neF).Perm T:=by
  refine List.Perm.trans ?_ h
  simp only [List.filter_append,List.filter_cons,hy,if_true,List.append_assoc,List.singleton_append]
  exact List.Perm.append_left _ List.perm_middle.symm
theorem perm_n {out s1 s2 T : List FileS} {y : FileS} (h : (out ++ (s1 ++ y :: s2).filter neF).Perm T) (hy : neF y = false) : (out ++ (s1 ++ s2).filter neF).Perm T:=by
  simpa only [List.filter_append,List.filter_cons,hy,Bool.false_eq_true,if_false] using h
theorem OpTo_stN {C : Ctx} {l : Sl} {Es Es' : List Asn} {h : Ro} {G : Value → List Asn → Ro → Prop} {ty : TypeId} {pos : String} {aft : Array Edge} {gd : Option (Nat × Bool)} {t e : TypeId} {x y : Operand} {b n : Nat} {v : Value} {cs cs' : List Value} {T : Ty}
    (hT : tyOf t C.ts = some T) (hx : evl l x = some (.pointer (some ((⟨b,0,none⟩ : Addr).add n)))) (hy : evl l y = some v) (hR : Repl Es (Blk b e cs) (Blk b e cs') Es') (hp : partL v = [v]) (hn : n < cs.length) (hc : cs' = cs.set n v)
    (hl : T.size = 1) (h1 : allOne [v] = true) (g : G undef Es' h) : OpTo C l Es h ⟨none,.store t x y,ty,pos,aft,gd⟩ G :=
  OpTo_store (off:=n) (cs':=cs') hT (by rw [hx,add_off,Nat.zero_add]) hy hR (by rw [hp,over_one _ _ _ hn,hc]) (by rw [hp,hl];rfl) (by rw [hp];exact h1) g
theorem files_c (h : Ro) (hG : PowG h) (A : Option Addr) (n c : Nat) (l : List (Fsh × Fct)) (hx : FactsAt h A n l) : Res Tryz.prog 77 #[.slice A n c] h (fun u h' => ∃ A' c' bs,u = .slice A' bs.length c' ∧ SlOf encP7 1 h' A' bs.length bs ∧ FilesAt h' (canonL (fcs l)) bs):=by
  refine Res_intro (args:=[_]) ts_ok Go.Proofs.Tryz.func77 rfl rfl fun w0 X0 => ?_
  have hlen:=hx.row.len
  have hn:=hx.small
  have h32 : In32 (fcs l):=fun f hf => by
    obtain ⟨p,hp,rfl⟩:=List.mem_map.1 hf
    exact (hx.fat p hp).1.void
  refine GO_nilS 57 82 ?_
  repeat' (first|apply GO_seq|apply GO_block|apply GO_region|apply GOl_nil|(apply GOl_pv;(iterate 3 exact rfl)))
  refine GO_loopT (X:=Nat × List (Fsh × Fct) × Option Addr × Nat × Ro) (fun x => x.1 ≤ n ∧ Le h x.2.2.2.2 ∧ x.2.1 = validP (l.take x.1)) (fun x => n - x.1)
    (fun x => [(16,.int .i64 x.1),(15,.int .i64 n),(14,.slice A n c),(3,.slice x.2.2.1 x.2.1.length x.2.2.2.1)])
    (fun x => [OwnS 57 82 (.slice x.2.2.1 x.2.1.length x.2.2.2.1) x.2.1.length (x.2.1.flatMap encF82)]) (fun x => x.2.2.2.2) (0,[],none,0,h) ⟨by dsimp only;omega,Le.refl _,by rw [List.take_zero,validP_0]⟩ QS QT rfl ?_
  rintro ⟨k,out,A4,c4,hh⟩ ⟨hk,hle,ho⟩ ih
  dsimp only at hk hle ho ih ⊢
  have hol : out.length ≤ k:=by
    have:=validP_len (l.take k)
    rw [← ho,List.length_take] at this
    omega
  by_cases hkn : k < n
  · have a1:=hx.row.addrD hkn
    have c1:=(hx.row.cellsD p0 hkn).le hle
    have et:=take7 p0 hlen hkn
    have hme:=mem7 p0 (show k < l.length by omega)
    have hfa:=hx.fat _ hme
    generalize l.getD k p0 = p at *
    have hch:=check7_c hh p.1 p.2 (hfa.1.le hle) hfa.2
    have hsn:=validP_snoc (l.take k) p
    rw [← et,← ho] at hsn
    by_cases hP : K45 p.2 ∧ FctOk p.2
    · rw [if_pos hP] at hsn
      rw [if_pos hP.2] at hch
      obtain ⟨hP1,hP2⟩:=hP
      have hP3 : p.2.kind = 4 ∨ p.2.kind = 5:=hP1
      clear hx hlen
      repeat' (first|apply GO_seq|apply GO_skip|apply GO_inBlock|apply GO_block|apply GO_region|apply GOl_nil|(apply GOl_unwanted;exact rfl;exact rfl)|(apply GOl_add;(iterate 3 exact rfl);omega;exact rfl;exact rfl)|(apply GOl_pv;(iterate 3 exact rfl))|(apply GOl_load;exact rfl;exact Ld_blk rfl QM rfl;exact rfl;exact rfl)|(apply GOl_ov;exact rfl;exact rfl;(first|(apply OV_idxS (j:=k);(iterate 5 exact rfl);exact a1;(with_reducible exact rfl);omega)|(apply OV_load;exact rfl;exact Lv_ro rfl c1 rfl));exact QA)|(apply GOl_to;(iterate 3 exact rfl);(first|(apply OpTo_store;(iterate 3 exact rfl);exact QR;(iterate 3 exact rfl);skip)|(apply OpTo_alloc;exact rfl;intro b;skip)|(apply OpTo_val;exact rfl;exact has58;exact hch;skip)|(apply OpTo_buildSliceS (enc:=encF82) (n:=1) [p];(iterate 3 exact rfl);exact List.cons_ne_nil _ _;(iterate 4 exact rfl);exact encF82_len;exact rfl;exact rfl;intro b5 h5 hle5 hs5;skip)|(apply OpTo_appendS (enc:=encF82) (xs:=out);(iterate 7 exact rfl);exact hs5;exact encF82_len;exact encF82_one;intro v1;exact QR;omega;exact rfl;intro A5 c5;skip)))|(apply GO_cond;exact rfl;all_goals (intro hc;try simp only [hcS,reduceCtorEq] at hc;try (exfalso;omega)))|(apply GOl_split;exact rfl;exact rfl;all_goals (intro hc;try simp only [hcS,reduceCtorEq] at hc;try (exfalso;omega))))
      all_goals first
        | (exfalso;omega)
        | (have h3:=ih (k + 1,out ++ [p],A5,c5,h5) ⟨by dsimp only;omega,hle.trans hle5,by dsimp only;exact hsn.symm⟩ (by dsimp only;omega)
           dsimp only at h3
           rw [List.length_append] at h3
           refine GO_fit QS QT (h3))
    · rw [if_neg hP] at hsn
      have h3:=ih (k + 1,out,A4,c4,hh) ⟨by dsimp only;omega,hle,by dsimp only;exact hsn.symm⟩ (by dsimp only;omega)
      dsimp only at h3
      by_cases hP3 : p.2.kind = 4 ∨ p.2.kind = 5
      · rw [if_neg (fun q => hP ⟨hP3,q⟩)] at hch
        repeat' (first|apply GO_seq|apply GO_skip|apply GO_inBlock|apply GO_block|apply GO_region|apply GOl_nil|(apply GOl_unwanted;exact rfl;exact rfl)|(apply GOl_add;(iterate 3 exact rfl);omega;exact rfl;exact rfl)|(apply GOl_pv;(iterate 3 exact rfl))|(apply GOl_load;exact rfl;exact Ld_blk rfl QM rfl;exact rfl;exact rfl)|(apply GOl_ov;exact rfl;exact rfl;(first|(apply OV_idxS (j:=k);(iterate 5 exact rfl);exact a1;(with_reducible exact rfl);omega)|(apply OV_load;exact rfl;exact Lv_ro rfl c1 rfl));exact QA)|(apply GOl_to;(iterate 3 exact rfl);(first|(apply OpTo_store;(iterate 3 exact rfl);exact QR;(iterate 3 exact rfl);skip)|(apply OpTo_alloc;exact rfl;intro b;skip)|(apply OpTo_val;exact rfl;exact has58;exact hch;skip)))|(apply GO_cond;exact rfl;all_goals (intro hc;try simp only [hcS,reduceCtorEq] at hc;try (exfalso;omega)))|(apply GOl_split;exact rfl;exact rfl;all_goals (intro hc;try simp only [hcS,reduceCtorEq] at hc;try (exfalso;omega))))
        all_goals first
          | (exfalso;omega)
          | (refine GO_fit QS QT (h3))
      · have hP4 : p.2.kind ≠ 4 ∧ p.2.kind ≠ 5:=⟨fun q => hP3 (.inl q),fun q => hP3 (.inr q)⟩
        repeat' (first|apply GO_seq|apply GO_skip|apply GO_inBlock|apply GO_block|apply GO_region|apply GOl_nil|(apply GOl_unwanted;exact rfl;exact rfl)|(apply GOl_add;(iterate 3 exact rfl);omega;exact rfl;exact rfl)|(apply GOl_pv;(iterate 3 exact rfl))|(apply GOl_load;exact rfl;exact Ld_blk rfl QM rfl;exact rfl;exact rfl)|(apply GOl_ov;exact rfl;exact rfl;(first|(apply OV_idxS (j:=k);(iterate 5 exact rfl);exact a1;(with_reducible exact rfl);omega)|(apply OV_load;exact rfl;exact Lv_ro rfl c1 rfl));exact QA)|(apply GOl_to;(iterate 3 exact rfl);(first|(apply OpTo_store;(iterate 3 exact rfl);exact QR;(iterate 3 exact rfl);skip)|(apply OpTo_alloc;exact rfl;intro b;skip)))|(apply GO_cond;exact rfl;all_goals (intro hc;try simp only [hcS,reduceCtorEq] at hc;try (exfalso;omega)))|(apply GOl_split;exact rfl;exact rfl;all_goals (intro hc;try simp only [hcS,reduceCtorEq] at hc;try (exfalso;omega))))
        all_goals first
          | (exfalso;omega)
          | (refine GO_fit QS QT (h3))
  · rw [List.take_of_length_le (by omega)] at ho
    clear ih
    obtain ⟨C,hC⟩ : ∃ C,C = canonL (fcs l):=⟨_,rfl⟩
    have hcv : canonL (fcs out) = caseF C:=by rw [ho,validP_canon h32,hC]
    have hok : ∀ f ∈ C,FctOk f:=fun f hf => (((canonL_spec (fcs l) h32).2 f).1 (hC ▸ hf)).2
    rw [← hC]
    have hgd : ∀ p ∈ out,FGd h p:=fun p hp => by
      rw [ho] at hp
      obtain ⟨q1,_,q3⟩:=validP_mem.1 hp
      have:=hx.fat p q1
      exact ⟨this.1,this.2,q3⟩
    have h45 : ∀ p ∈ out,p.2.kind = 4 ∨ p.2.kind = 5:=fun p hp => by
      rw [ho] at hp
      exact (validP_mem.1 hp).2.1
    refine GO_relC (enc:=encF82) (e:=57) (sz:=82) (n:=out.length) (xs:=out) encF82_len rfl QK ?_
    intro A7 c7 h7 hle7 e7 hnc7 hs7
    cases e7
    have hle77 : Le h h7:=(by first|exact Le.refl _|assumption|(repeat (first|assumption|(apply Le.trans;assumption))))
    clear ho hx
    repeat' (first|apply GO_seq|apply GO_block|apply GO_region|apply GOl_nil|(apply GO_exit;exact rfl)|(apply GOl_pv;(iterate 3 exact rfl))|(apply GOl_to;(iterate 3 exact rfl);(first|(apply OpTo_store;(iterate 3 exact rfl);exact QR;(iterate 3 exact rfl);skip)|(apply OpTo_alloc;exact rfl;intro b;skip)|(apply OpTo_makeMap ekI ptrV;intro bm;skip)|(apply OpTo_callP;exact rfl;exact has119;exact sortedF_c _ (hG.le (by first|exact Le.refl _|assumption|(repeat (first|assumption|(apply Le.trans;assumption))))) _ out.length _ out (hs7.le (by first|exact Le.refl _|assumption|(repeat (first|assumption|(apply Le.trans;assumption))))) (by omega) (fun p hp => (hgd p hp).le (by first|exact Le.refl _|assumption|(repeat (first|assumption|(apply Le.trans;assumption)))));exact QT;rintro vs Es9 h9 hle9 ⟨A9,c9,zs,rfl,hzc,hzs,hzn,rfl⟩;skip)))|(apply GO_cond;exact rfl;all_goals (intro hc;try simp only [hcS,reduceCtorEq] at hc;try (exfalso;omega))))
    generalize b = bF
    have hle79 : Le h h9:=(by first|exact Le.refl _|assumption|(repeat (first|assumption|(apply Le.trans;assumption))))
    refine GO_relC (enc:=encF82) (e:=57) (sz:=82) (n:=zs.length) (xs:=zs) encF82_len rfl QK ?_
    intro A8 c8 h8 hle8 e8 hnc8 hs8
    cases e8
    have hle78 : Le h h8:=hle79.trans hle8
    have hzg : ∀ p ∈ zs,FGd h p:=fun p hp => hgd p (hzs p hp)
    have hz45 : ∀ p ∈ zs,p.2.kind = 4 ∨ p.2.kind = 5:=fun p hp => h45 p (hzs p hp)
    have hzn2 : zs.length ≤ 1000000:=by omega
    rw [hcv] at hzc
    clear hgd h45 hzs hcv hs7 hC
    refine GO_sepNil ?_
    rw [show ([] : List (Int × Nat)) = fmap7 [] from fmap7_0.symm]
    refine GO_loopT (X:=Nat × List FileS × Ro) (fun x => x.1 ≤ zs.length ∧ Le h8 x.2.2 ∧ FilesInv (zs.take x.1) x.2.1 ∧ x.2.1.length ≤ x.1) (fun x => zs.length - x.1)
      (fun x => [(43,.int .i64 x.1),(42,.int .i64 zs.length),(41,.slice A9 zs.length c9),(7,.func (.func 118) #[] #[ptrV bF]),(6,ptrV bF)])
      (fun x => [Blk bF 178 [.map (some bm)],MapA ekI ptrV bm (fmap7 x.2.1),SepA (x.2.1.flatMap fileA)]) (fun x => x.2.2) (0,[],h8) ⟨by dsimp only;omega,Le.refl _,FilesInv.nil,Nat.le_refl _⟩ QS QT rfl ?_
    rintro ⟨i,fs,hq⟩ ⟨hi,hleq,hI,hfl⟩ ih
    dsimp only at hi hleq hI hfl ih ⊢
    by_cases hin : i < zs.length
    · have a1:=hs8.addrD hin
      have c1:=(hs8.cellsD p0 hin).le hleq
      have et:=take7 p0 (xs:=zs) rfl hin
      have hme:=mem7 p0 hin
      have hpg:=hzg _ hme
      have hp45:=hz45 _ hme
      generalize zs.getD i p0 = p at *
      have hgn : ∀ pre (x : FileS) post nn,((pre ++ x :: post = fs) ∨ (∃ b,pre = fs ∧ post = [] ∧ x = fresh b nn ∧ ∀ y ∈ fs,y.num ≠ nn)) → FilesInv (zs.take i) (pre ++ x :: post) ∧ (pre ++ x :: post).length ≤ i + 1 ∧ x.rs.length ≤ i:=by
        intro pre x post nn hor
        have h1 : FilesInv (zs.take i) (pre ++ x :: post) ∧ (pre ++ x :: post).length ≤ i + 1:=by
          rcases hor with e|⟨b,e1,e2,e3,e4⟩
          · rw [e];exact ⟨hI,by omega⟩
          · subst e1;subst e2;subst e3;exact ⟨hI.get e4,by simp;omega⟩
        refine ⟨h1.1,h1.2,?_⟩
        have:=h1.1.nums_len (x:=x) (by simp)
        rw [List.length_take] at this
        omega
      by_cases hk4 : p.2.kind = 4
      · repeat' (first|apply GO_seq|apply GO_skip|apply GO_inBlock|apply GO_block|apply GO_region|apply GOl_nil|(apply GOl_add;(iterate 3 exact rfl);omega;exact rfl;exact rfl)|(apply GOl_pv;(iterate 3 exact rfl))|(apply GOl_load;exact rfl;exact Ld_blk rfl QM rfl;exact rfl;exact rfl)|(apply GOl_ov;exact rfl;exact rfl;(first|(apply OV_idxS (j:=i);(iterate 5 exact rfl);exact a1;(with_reducible exact rfl);omega)|(apply OV_load;exact rfl;exact Lv_ro rfl c1 rfl));exact QA)|(apply GOl_to;(iterate 3 exact rfl);(first|(apply OpTo_store;(iterate 3 exact rfl);exact QR;(iterate 3 exact rfl);skip)|(apply OpTo_alloc;exact rfl;intro b;skip)|(apply OpTo_callPF (f:=118) (fs:=[]) (cs:=[ptrV bF]);exact rfl;exact rfl;exact has118;exact get7_c _ bF bm fs _;exact QT;rintro vg E2 h2 hle2 ⟨pre,⟨bx,nx,Ax,cx,rs,sx⟩,post,rfl,hnx,hor,rfl⟩;skip)))|(apply GO_drawp (n:=15) [0,1,2,3,4,5,6,7,8,9,10] [(0,0),(1,0),(2,0),(3,0),(4,0),(5,0),(6,1),(7,1),(8,0),(9,0),(10,1)];kernel_rfl)|(apply GP_pv;exact rfl;kernel_rfl;(iterate 3 exact rfl))|(apply GP_loadB;exact rfl;kernel_rfl;(iterate 3 exact rfl);exact QM;exact rfl;exact rfl)|(apply GP_real;exact rfl;kernel_rfl;(iterate 3 exact rfl);(first|(apply OpTo_buildSliceS (enc:=encF82) (n:=1) [p];(iterate 3 exact rfl);exact List.cons_ne_nil _ _;(iterate 4 exact rfl);exact encF82_len;exact rfl;exact rfl;intro b5 h5 hle5 hs5;refine ⟨hle5,QN,?_⟩)|(apply OpTo_appendS (enc:=encF82) (xs:=rs);(iterate 7 exact rfl);exact hs5;exact encF82_len;exact encF82_one;intro v1;exact QR;(have q7 : rs.length ≤ i:=(hgn _ _ _ _ hor).2.2;exact Nat.le_trans (Nat.add_le_add_right q7 1) (by omega));exact rfl;intro A5 c5;refine ⟨Le.refl _,QN,?_⟩)|(apply OpTo_stN (b:=bx) (n:=1) (cs:=fileC ⟨bx,nx,Ax,cx,rs,sx⟩) (cs':=fileC ⟨bx,nx,A5,c5,rs ++ [p],sx⟩) (e:=181);(iterate 3 exact rfl);exact QR;exact rfl;(show 1 < (sx.map Value.bool).length + 1 + 1;omega);(show (Value.int .i64 nx :: Value.slice A5 (rs ++ [p]).length c5 :: sx.map Value.bool) = Value.int .i64 nx :: Value.slice A5 (rs.length + 1) c5 :: sx.map Value.bool;rw [List.length_append];rfl);exact rfl;exact rfl;refine ⟨Le.refl _,QN,?_⟩)))|(apply GP_done;kernel_rfl;exact rfl)|(apply GO_cond;exact rfl;all_goals (intro hc;try simp only [hcS,reduceCtorEq] at hc;try (exfalso;omega))))
        all_goals
          have hgg:=hgn _ _ _ _ hor
          have e9 : rs.length + 1 = (rs ++ [p]).length:=by simp
          refine GO_take (Es':=[SepA (pre.flatMap fileA ++ post.flatMap fileA),Blk bx 181 (fileC ⟨bx,nx,A5,c5,rs ++ [p],sx⟩),OwnS 57 82 (.slice A5 (rs.length + 1) c5) (rs.length + 1) ((rs ++ [p]).flatMap encF82),Blk bF 178 [.map (some bm)],MapA ekI ptrV bm (fmap7 (pre ++ ⟨bx,nx,Ax,cx,rs,sx⟩ :: post))]) QT ?_
          rw [e9,← fmap7_mid pre post ⟨bx,nx,Ax,cx,rs,sx⟩ ⟨bx,nx,A5,c5,rs ++ [p],sx⟩ rfl rfl]
          refine GO_sepBack (g:=fileA) (pre:=pre) (post:=post) (y:=⟨bx,nx,A5,c5,rs ++ [p],sx⟩) rfl QT ?_
          have h3:=ih (i + 1,pre ++ ⟨bx,nx,A5,c5,rs ++ [p],sx⟩ :: post,h5) ⟨by dsimp only;omega,hleq.trans (hle2.trans hle5),by dsimp only;rw [et];exact hgg.1.ruling hk4 hnx A5 c5,by
            have:=hgg.2.1
            simp only [List.length_append,List.length_cons] at this ⊢
            omega⟩ (by dsimp only;omega)
          dsimp only at h3
          refine GO_fit QS QT (h3)
      · have hk5 : p.2.kind = 5:=hp45.resolve_left hk4
        cases hsp : p.2.aSusp with
        | false =>
          have h3:=ih (i + 1,fs,hq) ⟨by dsimp only;omega,hleq,by dsimp only;rw [et];exact hI.nop hk5 hsp,by dsimp only;omega⟩ (by dsimp only;omega)
          dsimp only at h3
          repeat' (first|apply GO_seq|apply GO_skip|apply GO_inBlock|apply GO_block|apply GO_region|apply GOl_nil|(apply GOl_add;(iterate 3 exact rfl);omega;exact rfl;exact rfl)|(apply GOl_pv;(iterate 3 exact rfl))|(apply GOl_load;exact rfl;exact Ld_blk rfl QM rfl;exact rfl;exact rfl)|(apply GOl_ov;exact rfl;exact rfl;(first|(apply OV_idxS (j:=i);(iterate 5 exact rfl);exact a1;(with_reducible exact rfl);omega)|(apply OV_load;exact rfl;exact Lv_ro rfl c1 rfl));exact QA)|(apply GOl_to;(iterate 3 exact rfl);(first|(apply OpTo_store;(iterate 3 exact rfl);exact QR;(iterate 3 exact rfl);skip)|(apply OpTo_alloc;exact rfl;intro b;skip)))|(apply GO_drawp (n:=17) [0,1,2,3,4,5,6,7,8,9,10,11] [(0,0),(1,0),(2,0),(3,0),(5,0),(6,0),(7,0),(4,1),(8,0),(9,0),(10,0),(11,1)];kernel_rfl)|(apply GP_pv;exact rfl;kernel_rfl;(iterate 3 exact rfl))|(apply GP_loadB;exact rfl;kernel_rfl;(iterate 3 exact rfl);exact QM;exact rfl;exact rfl)|(apply GO_cond;exact rfl;all_goals (intro hc;try simp only [hcS,reduceCtorEq] at hc;try (exfalso;omega))))
          all_goals first
            | (exfalso;omega)
            | (exfalso;exact absurd (hc.symm.trans hsp) (by decide))
            | (refine GO_fit QS QT (h3))
        | true =>
          obtain ⟨j,hj,hj4⟩ : ∃ j : Nat,p.2.aInst = (j : Int) ∧ j < 4:=by
            have h4:=hpg.2.2.2.2.1
            unfold ContOk at h4
            rw [if_neg (by omega),if_neg (by omega),if_neg (by omega),if_neg (by omega),if_pos hk5] at h4
            exact ⟨p.2.aInst.toNat,by omega,by omega⟩
          repeat' (first|apply GO_seq|apply GO_skip|apply GO_inBlock|apply GO_block|apply GO_region|apply GOl_nil|(apply GOl_add;(iterate 3 exact rfl);omega;exact rfl;exact rfl)|(apply GOl_pv;(iterate 3 exact rfl))|(apply GOl_load;exact rfl;exact Ld_blk rfl QM rfl;exact rfl;exact rfl)|(apply GOl_ov;exact rfl;exact rfl;(first|(apply OV_idxS (j:=i);(iterate 5 exact rfl);exact a1;(with_reducible exact rfl);omega)|(apply OV_load;exact rfl;exact Lv_ro rfl c1 rfl));exact QA)|(apply GOl_to;(iterate 3 exact rfl);(first|(apply OpTo_store;(iterate 3 exact rfl);exact QR;(iterate 3 exact rfl);skip)|(apply OpTo_alloc;exact rfl;intro b;skip)))|(apply GO_drawp (n:=17) [0,1,2,3,4,5,6,7,8,9,10,11] [(0,0),(1,0),(2,0),(3,0),(5,0),(6,0),(7,0),(4,1),(8,0),(9,0),(10,0),(11,1)];kernel_rfl)|(apply GP_pv;exact rfl;kernel_rfl;(iterate 3 exact rfl))|(apply GP_loadB;exact rfl;kernel_rfl;(iterate 3 exact rfl);exact QM;exact rfl;exact rfl)|(apply GP_ov;exact rfl;kernel_rfl;exact rfl;exact rfl;(first|(apply OV_idxA (j:=j);(iterate 5 exact rfl);exact hj;omega));exact QA)|(apply GP_real;exact rfl;kernel_rfl;(iterate 3 exact rfl);(first|(apply OpTo_callPF (f:=118) (fs:=[]) (cs:=[ptrV bF]);exact rfl;exact rfl;exact has118;exact get7_c _ bF bm fs _;exact QT;rintro vg E2 h2 hle2 ⟨pre,⟨bx,nx,Ax,cx,rs,sx⟩,post,rfl,hnx,hor,rfl⟩;refine ⟨hle2,QN,?_⟩)|(apply OpTo_stF (b:=bx) (n:=2) (j:=j) (cs:=fileC ⟨bx,nx,Ax,cx,rs,sx⟩) (cs':=fileC ⟨bx,nx,Ax,cx,rs,sx.set j true⟩) (e:=181);(iterate 3 exact rfl);exact QR;exact rfl;(have q8 : sx.length = 4:=(hgn _ _ _ _ hor).1.len ⟨bx,nx,Ax,cx,rs,sx⟩ (by simp);show 2 + j < (sx.map Value.bool).length + 1 + 1;rw [List.length_map];omega);exact (fileC_set ⟨bx,nx,Ax,cx,rs,sx⟩ j).symm;exact rfl;exact rfl;refine ⟨Le.refl _,QN,?_⟩)))|(apply GP_done;kernel_rfl;exact rfl)|(apply GO_cond;exact rfl;all_goals (intro hc;try simp only [hcS,reduceCtorEq] at hc;try (exfalso;omega))))
          all_goals (try (exfalso;exact absurd (hc.symm.trans hsp) (by decide)))
          all_goals
            have hgg:=hgn _ _ _ _ hor
            refine GO_take (Es':=[SepA (pre.flatMap fileA ++ post.flatMap fileA),Blk bx 181 (fileC ⟨bx,nx,Ax,cx,rs,sx.set j true⟩),OwnS 57 82 (.slice Ax rs.length cx) rs.length (rs.flatMap encF82),Blk bF 178 [.map (some bm)],MapA ekI ptrV bm (fmap7 (pre ++ ⟨bx,nx,Ax,cx,rs,sx⟩ :: post))]) QT ?_
            rw [← fmap7_mid pre post ⟨bx,nx,Ax,cx,rs,sx⟩ ⟨bx,nx,Ax,cx,rs,sx.set j true⟩ rfl rfl]
            refine GO_sepBack (g:=fileA) (pre:=pre) (post:=post) (y:=⟨bx,nx,Ax,cx,rs,sx.set j true⟩) rfl QT ?_
            have h3:=ih (i + 1,pre ++ ⟨bx,nx,Ax,cx,rs,sx.set j true⟩ :: post,h2) ⟨by dsimp only;omega,hleq.trans hle2,by dsimp only;rw [et];exact hgg.1.appeal hk5 hsp hnx hj hj4,by
              have:=hgg.2.1
              simp only [List.length_append,List.length_cons] at this ⊢
              omega⟩ (by dsimp only;omega)
            dsimp only at h3
            refine GO_fit QS QT (h3)
    · rw [List.take_of_length_le (by omega)] at hI
      clear ih
      refine GO_release (A:=SepA (fs.flatMap fileA)) QK ?_
      intro D0 hr hler hA0
      have hfr:=files_free hA0
      have hfl2 : fs.length ≤ 1000000:=by omega
      have hleh : Le h hr:=(by first|exact Le.refl _|assumption|(repeat (first|assumption|(apply Le.trans;assumption))))
      have hfa : ∀ x ∈ fs,FileAt hr x:=fun x hx => ⟨(hfr x hx).1,(hfr x hx).2,fun p hp => by
        rw [hI.rs x hx] at hp
        exact (hzg p (List.mem_filter.1 hp).1).le hleh,hI.len x hx,Nat.le_trans (hI.nums_len hx) hzn2⟩
      have hfo : ∀ {h' : Ro} {ys : List FileS},Le hr h' → ys.Perm (fs.filter neF) → (ys.Pairwise fun x y => x.num < y.num) → FilesAt h' C ys:=fun hl hp hs => files_out hzc hI hp hs hok hzn2 (fun x hx => (hfa x hx).le hl) hfl2
      have hnd:=hI.nodup
      clear hA0 hfr hzg hz45 hs8 hok hzc hI
      refine GO_nilS 133 1 ?_
      repeat' (first|apply GO_seq|apply GO_block|apply GO_region|apply GOl_nil|(apply GO_exit;exact rfl)|(apply GOl_pv;(iterate 3 exact rfl))|(apply GOl_load;exact rfl;exact Ld_blk rfl QM rfl;exact rfl;exact rfl)|(apply GOl_to;(iterate 3 exact rfl);(first|(apply OpTo_range (ek:=ekI) (ev:=ptrV);(iterate 3 exact rfl);intro rr;exact QR;intro rr;skip)))|(apply GO_cond;exact rfl;all_goals (intro hc;try simp only [hcS,reduceCtorEq] at hc;try (exfalso;omega))))
      refine GO_loopT (X:=List FileS × List FileS × Option (Int × Nat) × Option Addr × Nat × Ro) (fun x => Le hr x.2.2.2.2.2 ∧ (x.1 ++ x.2.1.filter neF).Perm (fs.filter neF) ∧ (∀ y ∈ x.2.1,y ∈ fs) ∧ x.1.length + x.2.1.length ≤ fs.length) (fun x => x.2.1.length)
        (fun x => [(81,.pointer (some ⟨rr,0,none⟩)),(11,.slice x.2.2.2.1 x.1.length x.2.2.2.2.1)])
        (fun x => [RngA ekI ptrV bm rr (fmap7 fs) (fmap7 x.2.1) x.2.2.1,OwnS 133 1 (.slice x.2.2.2.1 x.1.length x.2.2.2.2.1) x.1.length (x.1.flatMap encP7)]) (fun x => x.2.2.2.2.2) ([],fs,none,none,0,hr) ⟨Le.refl _,.refl _,fun _ h => h,by simp⟩ QS QT rfl ?_
      rintro ⟨out,rem,cur,A6,c6,hk⟩ ⟨hlk,hpm,hsub,hln⟩ ih
      dsimp only at hlk hpm hsub hln ih ⊢
      have hos : ∀ p ∈ out,p ∈ fs:=fun p hp => (List.mem_filter.1 (hpm.mem_iff.1 (List.mem_append.2 (.inl hp)))).1
      have hno : (out.map (·.num)).Nodup:=by
        have g1 : ((fs.filter neF).map (·.num)).Nodup:=List.Nodup.sublist (List.Sublist.map _ List.filter_sublist) hnd
        have g2:=(hpm.map (·.num)).nodup_iff.2 g1
        rw [List.map_append] at g2
        exact (List.nodup_append.1 g2).1
      repeat' (first|apply GO_seq|apply GO_skip|apply GO_inBlock|apply GO_block|apply GO_region|apply GOl_nil|(apply GO_exit;exact rfl)|(apply GOl_pv;(iterate 3 exact rfl))|(apply GOl_ov;exact rfl;exact rfl;(first|(apply OV_entry (ek:=ekI) (ev:=ptrV) (b:=bm) (m:=fmap7 fs) (rem:=fmap7 s1 ++ fmap7 s2) (p:=(y.num,y.b));exact rfl)|(apply OV_load;exact rfl;first|exact Lv_ro rfl (by assumption) rfl|exact Lv_roF rfl (by assumption) rfl|exact Lv_roF2 rfl (by assumption) rfl|exact Lv_roF3 rfl (by assumption) rfl));exact QA)|(apply GOl_to;(iterate 3 exact rfl);(first|(apply OpTo_next;exact rfl;intro rem' cur';exact QR;intro hrem;rotate_left;intro q r1 r2 hrem;(obtain ⟨s1,y,s2,hre,rfl,rfl,rfl⟩:=fmap7_split hrem);(have hym : y ∈ fs:=hsub y (by rw [hre];simp));(have hyc:=((hfa y hym).le hlk).cells);rotate_left;all_goals skip)|(apply OpTo_buildSliceS (enc:=encP7) (n:=1) [y];(iterate 3 exact rfl);exact List.cons_ne_nil _ _;(iterate 4 exact rfl);exact fun _ => rfl;exact rfl;exact rfl;intro b1 h1 hle1 hs1;skip)|(apply OpTo_appendS (enc:=encP7) (xs:=out);(iterate 7 exact rfl);exact hs1;exact fun _ => rfl;exact fun x => allOne_ok rfl;intro v1;exact QR;omega;exact rfl;intro A1 c1;skip)|(refine OpTo_relX (enc:=encP7) (e:=133) (sz:=1) (xs:=out) (n:=out.length) (fun _ => rfl) rfl QK ?_;intro A2 c2 hz hlz ez hncz hsz;cases ez;apply OpTo_callP;exact rfl;exact has120;exact sortedP_c hz _ _ _ out hsz (by omega) (fun p hp => (hfa p (hos p hp)).le (by first|exact Le.refl _|assumption|(repeat (first|assumption|(apply Le.trans;assumption))))) hno;exact QT;rintro vs Ez hv hlv ⟨A0,c0,ys,rfl,hyp,hys,rfl⟩;skip)))|(apply GO_cond;exact rfl;all_goals (intro hc;try simp only [hcS,reduceCtorEq] at hc;try (exfalso;omega))))
      · have hr0:=fmap7_nil hrem
        subst hr0
        rw [List.filter_nil,List.append_nil] at hpm
        refine GO_relC (enc:=encP7) (e:=133) (sz:=1) (n:=out.length) (xs:=ys) (fun _ => rfl) hyp.length_eq QK ?_
        intro A2 c2 hw hlw ew hncw hsw
        cases ew
        exact GO_retR1 rfl rfl rfl ⟨A0,c0,ys,by rw [hyp.length_eq],by rw [hyp.length_eq];exact hsw,hfo (by first|exact Le.refl _|assumption|(repeat (first|assumption|(apply Le.trans;assumption)))) (hyp.trans hpm) hys⟩
      · have hyt : neF y = true:=neF_pos.2 (by omega)
        have h3:=ih (out ++ [y],s1 ++ s2,some (y.num,y.b),A1,c1,h1) ⟨hlk.trans hle1,by dsimp only;rw [hre] at hpm;exact perm_y hpm hyt,fun z hz => hsub z (by
          rw [hre]
          rcases List.mem_append.1 hz with w|w
          · exact List.mem_append.2 (.inl w)
          · exact List.mem_append.2 (.inr (List.mem_cons_of_mem _ w))),by
          rw [hre] at hln
          simp only [List.length_append,List.length_cons,List.length_nil] at hln ⊢
          omega⟩ (by rw [hre];simp only [List.length_append,List.length_cons];omega)
        dsimp only at h3
        rw [fmap7_app,List.length_append] at h3
        refine GO_fit QS QT (h3)
      · have hyt : neF y = false:=by
          cases hq9 : neF y with
          | false => rfl
          | true => have:=neF_pos.1 hq9;omega
        have h3:=ih (out,s1 ++ s2,some (y.num,y.b),A6,c6,hk) ⟨hlk,by dsimp only;rw [hre] at hpm;exact perm_n hpm hyt,fun z hz => hsub z (by
          rw [hre]
          rcases List.mem_append.1 hz with w|w
          · exact List.mem_append.2 (.inl w)
          · exact List.mem_append.2 (.inr (List.mem_cons_of_mem _ w))),by
          rw [hre] at hln
          simp only [List.length_append,List.length_cons] at hln ⊢
          omega⟩ (by rw [hre];simp only [List.length_append,List.length_cons];omega)
        dsimp only at h3
        rw [fmap7_app] at h3
        refine GO_fit QS QT (h3)
end Go.Hw

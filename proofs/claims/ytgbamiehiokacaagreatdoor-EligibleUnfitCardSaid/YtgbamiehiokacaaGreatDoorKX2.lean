import Derived.Test.YtgbamiehiokacaaGreatDoorKX1
import Derived.Test.YtgbamiehiokacaaGreatDoorHD
import Derived.Test.YtgbamiehiokacaaGreatDoorHB
import Derived.Lib.AppendZeros
set_option linter.unusedVariables false
set_option linter.unusedSimpArgs false
set_option maxRecDepth 100000
set_option maxHeartbeats 8000000
namespace Go.Hw
open Go
open Go.Proofs (Tryz.prog)
theorem OpTo_appZerosG {C : Ctx} {l : Sl} {Es : List Asn} {h : Ro} {G : Value → List Asn → Ro → Prop} {ty : TypeId} {pos : String} {aft : Array Edge} {gd : Option (Nat × Bool)} {dst : Option Tmp} {t tn e : TypeId} {x y : Operand} {n : Nat} {T N E : Ty} (hT : tyOf t C.ts = some T) (hTd : T.desc = .slice e) (hN : tyOf tn C.ts = some N) (hNd : N.desc = .int .i64) (hE : tyOf e C.ts = some E) (hEz : E.zero.cells.size = E.size) (hEs : Nat.blt 0 E.size = true) (hEb : Nat.ble E.bytes 100000 = true)
    (hx : evl l x = some (.slice none 0 0)) (hy : evl l y = some (.int .i64 (n : Int))) (hn : 0 < n ∧ n ≤ 1000000000)
    (g : ∀ b c zs,n ≤ c → G (.slice (some ⟨b,0,none⟩) n c) (OwnS e E.size (.slice (some ⟨b,0,none⟩) n c) n zs :: Es) h) : OpTo C l Es h ⟨dst,.call ⟨.builtin .append,#[x,y],#[t,tn]⟩,ty,pos,aft,gd⟩ G:=fun a w hs hp => by
  obtain ⟨i,hi,hi1,hi2,hi3⟩:=C.ok.info hE
  obtain ⟨D0,hu,hb0⟩:=C.ok.und hT
  rw [hTd] at hb0;rw [blank_slice hb0] at hu
  obtain ⟨D1,hu1,hb1⟩:=C.ok.und hN
  rw [hNd] at hb1;rw [blank_int hb1] at hu1
  have hEb' : E.bytes ≤ 100000:=Nat.le_of_ble_eq_true hEb
  have hEs' : 0 < E.size:=Nat.le_of_ble_eq_true hEs
  have h48 : n * i.bytes ≤ 281474976710656:=by
    rw [hi2]
    exact Nat.le_trans (Nat.mul_le_mul hn.2 hEb') (by decide)
  have hr:=Lib.run_append_nil_zeros (P:=C.P) w t tn ty e i E.zero .i64 .i64 hu hu1 hi hi3 n hn.1 (by rw [hi1];exact hEs') (by omega) h48
  have hge:=grownCap_ge w n 0 e
  have hcm:=grownCap_le_maxLen w n 0 e (by unfold maxLen;omega)
  have hsz : ∀ m,(Builtin.zeroCells E.zero.cells m).size = m * E.size:=fun m => by unfold Builtin.zeroCells;simp [hEz]
  refine .inl ⟨_,_,_,h,by simp only [execOp,resolve,invoke,builtin,Sem.run_bind,Sem.run_pure,Result.andThen_ok,List.map_toArray,List.map_cons,List.map_nil,hs.eval hx,hs.eval hy,hr];rfl,(hp.drew).alloc (.cells (Builtin.zeroCells E.zero.cells n ++ Builtin.zeroCells E.zero.cells (grownCap w n 0 e - n)) e) (OwnS e E.size (.slice (some ⟨w.heap.size,0,none⟩) n (grownCap w n 0 e)) n (Builtin.zeroCells E.zero.cells n).toList) (fun m hm => (show (OwnS e E.size (.slice (some ⟨w.heap.size,0,none⟩) n (grownCap w n 0 e)) n (Builtin.zeroCells E.zero.cells n).toList).holds [w.heap.size] m from by exact ⟨by simp [hsz],.inr ⟨w.heap.size,grownCap w n 0 e,_,rfl,rfl,hm,hge,hcm,(by rw [Array.size_append,hsz,hsz,← Nat.add_mul];congr 1;omega),(by rw [Array.toList_append];exact List.take_left' (by simp [hsz]))⟩⟩)),g _ _ _ hge⟩
attribute [local irreducible] GO GOl GDp Val Fn Res CellsAt ValE Blk OwnS MapA OwnPf Has Yl SepA forceL decC memS suspC suspN
theorem sliceH_sameX (A : Option Addr) (c sz : Nat) : sliceH A c sz = A:=by
  unfold sliceH
  split
  · rfl
  · cases A <;> simp [Addr.add]
theorem growC_c (h : Ro) (n : Nat) (hn : n ≤ 1000000000) : Fn Tryz.prog 223 #[.slice none 0 0,.int .i64 n] [] h fun u Es _ => Es = [OwnS 161 2 u 0 []]:=by
  refine Fn_intro (args:=[_,_]) ts_ok Go.Proofs.Tryz.func223 rfl rfl fun w0 X0 => ?_
  refine GO_nilS 161 2 ?_
  by_cases h0 : n = 0
  · subst h0
    repeat' (first|apply GO_seq|apply GO_skip|apply GO_region|apply GOl_nil|(apply GOl_sub;(iterate 3 exact rfl);omega;exact rfl;exact rfl)|(apply GOl_pv;(iterate 3 exact rfl))|(apply GO_cond;exact rfl;all_goals (intro hc;try simp only [hcS,reduceCtorEq] at hc;try (exfalso;omega))))
    exact GO_retS1 rfl rfl rfl (List.Sublist.refl _) rfl
  · repeat' (first|apply GO_seq|apply GO_skip|apply GO_region|apply GOl_nil|(apply GOl_sub;(iterate 3 exact rfl);omega;exact rfl;exact rfl)|(apply GOl_pv;(iterate 3 exact rfl))|(apply GOl_ov;exact rfl;exact rfl;(first|(apply OV_sliceHi (hi:=0);(iterate 6 exact rfl);omega;omega));exact QA)|(apply GOl_to;(iterate 3 exact rfl);(first|(apply OpTo_appZerosG;(iterate 10 exact rfl);(constructor <;> omega);intro b2 c2 zs hc2;skip)))|(apply GO_cond;exact rfl;all_goals (intro hc;try simp only [hcS,reduceCtorEq] at hc;try (exfalso;omega))))
    rw [sliceH_sameX]
    refine GO_asn (A':=OwnS 161 2 (.slice (some ⟨b2,0,none⟩) 0 c2) 0 []) QR (fun D m hD => by have:=OwnS_cut (m:=0) (Nat.zero_le _) hD;rw [show ty161.size = 2 from rfl] at this;simpa using this) ?_
    exact GO_retS1 rfl rfl rfl (.cons_cons _ (List.nil_sublist _)) rfl
theorem concatC_c (h : Ro) (A B : Option Addr) (n c m d bb : Nat) (x y : List FCard) (hx : SlOf encC 2 h A n x) (hy : SlOf encC 2 h B m y) (hn : n ≤ 100000000) (hm : m ≤ 100000000) (hb : CellsAt h ⟨bb,0,none⟩ [.slice A n c,.slice B m d]) :
    Res Tryz.prog 164 #[.slice (some ⟨bb,0,none⟩) 2 2] h fun u h' => ∃ A' c',u = .slice A' (n + m) c' ∧ SlOf encC 2 h' A' (n + m) (x ++ y):=by
  refine Res_intro (args:=[_]) ts_ok Go.Proofs.Tryz.func164 rfl rfl fun w0 X0 => ?_
  have hb0:=cells_at hb (k:=0) rfl
  have hb1:=cells_at hb (k:=1) rfl
  have hxl:=hx.len
  have hyl:=hy.len
  repeat' (first|apply GO_seq|apply GO_skip|apply GO_inBlock|apply GO_block|apply GO_region|apply GOl_nil|(apply GO_exit;exact rfl)|(apply GO_loop)|(apply GO_inLoop)|(apply GOl_add;(iterate 3 exact rfl);omega;exact rfl;exact rfl)|(apply GOl_pv;(iterate 3 exact rfl))|(apply GOl_ov;exact rfl;exact rfl;(first|(apply OV_idx (j:=0);(iterate 5 exact rfl);omega;omega)|(apply OV_idx (j:=1);(iterate 5 exact rfl);omega;omega)|(apply OV_load;exact rfl;exact Lv_ro rfl (hb0.le (by first|exact Le.refl _|assumption|(repeat (first|assumption|(apply Le.trans;assumption))))) rfl)|(apply OV_load;exact rfl;exact Lv_ro rfl (hb1.le (by first|exact Le.refl _|assumption|(repeat (first|assumption|(apply Le.trans;assumption))))) rfl));exact QA)|(apply GOl_to;(iterate 3 exact rfl);(first|(apply OpTo_callP;exact rfl;exact has223;(have hg7:=growC_c h (n + m) (by omega);rw [show ((n + m : Nat) : Int) = 0 + (n : Int) + (m : Int) by omega] at hg7;exact hg7);exact QT;rintro vg Eg hg9 hlg rfl;skip)|(apply OpTo_appendS (enc:=encC) (xs:=[]) (ys:=x);(iterate 7 exact rfl);exact hx.le (by first|exact Le.refl _|assumption|(repeat (first|assumption|(apply Le.trans;assumption))));exact fun _ => rfl;exact fun _ => allOne_ok rfl;intro v1;exact QR;omega;exact rfl;intro A1 c1;skip)|(apply OpTo_appendS (enc:=encC) (xs:=[] ++ x) (ys:=y);(iterate 7 exact rfl);exact hy.le (by first|exact Le.refl _|assumption|(repeat (first|assumption|(apply Le.trans;assumption))));exact fun _ => rfl;exact fun _ => allOne_ok rfl;intro v1;exact QR;omega;exact rfl;intro A1 c1;skip)))|(apply GO_cond;exact rfl;all_goals (intro hc;try simp only [hcS,reduceCtorEq] at hc;try (exfalso;omega))))
  all_goals
    rw [List.nil_append,Nat.zero_add]
    refine GO_relC (enc:=encC) (e:=161) (sz:=2) (n:=n + m) (xs:=x ++ y) (fun _ => rfl) (by rw [List.length_append,hxl,hyl]) QK ?_
    intro A7 c7 h7 hle7 e7 hnc7 hs7
    cases e7
    exact GO_retR1 rfl rfl rfl ⟨_,_,rfl,hs7⟩
theorem OV_lookD {κ α : Type} [DecidableEq κ] {ek : κ → Value} {ev : α → Value} {z0 : α} {C : Ctx} {l : Sl} {h : Ro} {ty : TypeId} {pos : String} {aft : Array Edge} {gd : Option (Nat × Bool)} {dst : Option Tmp} {t k e : TypeId} {x y : Operand} {b : Nat} {key : κ} {m : List (κ × α)} {T E : Ty} {q : α} (K : KeyT C.P k ek) (hT : tyOf t C.ts = some T) (hTd : T.desc = .map k e) (hE : tyOf e C.ts = some E) (hz : E.zero = ev z0)
    (hx : evl l x = some (.map (some b))) (hy : evl l y = some (ek key)) (hq : (lookA key m).getD z0 = q) : OV C l [MapA ek ev b m] h ⟨dst,.lookup t x y false,ty,pos,aft,gd⟩ (ev q):=by
  have:=OV_lookup (ev:=ev) (h:=h) (ty:=ty) (pos:=pos) (aft:=aft) (gd:=gd) (dst:=dst) (c:=false) (m:=m) (b:=b) K hT hTd hE hx hy rfl
  subst hq
  cases hl : lookA key m with
  | none => rw [hl] at this;rw [show ev ((none : Option α).getD z0) = E.zero from hz.symm];exact this
  | some a => rw [hl] at this;exact this
def ekN (i : Int) : Value:=.int .i64 i
def evCd (z : Int × Bool) : Value:=.agg #[.int .i64 z.1,.bool z.2]
theorem KN : KeyT Tryz.prog 3 ekN:=K7
def cardM (m : List (Int × (Int × Bool))) (c : FCard) : List (Int × (Int × Bool)):=insA c.p (cardS c.p ((lookA c.p m).getD (0,false)) c) m
theorem cardM_look (m : List (Int × (Int × Bool))) (c : FCard) (p : Int) : (lookA p (cardM m c)).getD (0,false) = cardS p ((lookA p m).getD (0,false)) c:=by
  unfold cardM
  rw [look7]
  by_cases h : c.p = p
  · subst h;simp
  · rw [if_neg h]
    unfold cardS
    rw [if_neg h]
def cardMs (cs : List FCard) : List (Int × (Int × Bool)):=cs.foldl cardM []
theorem cardMs_snoc (cs : List FCard) (c : FCard) : cardMs (cs ++ [c]) = cardM (cardMs cs) c:=by unfold cardMs;rw [List.foldl_append];rfl
theorem cardMs_look (cs : List FCard) (p : Int) : (lookA p (cardMs cs)).getD (0,false) = cs.foldl (cardS p) (0,false):=by
  refine snocI (P:=fun cs => (lookA p (cardMs cs)).getD (0,false) = cs.foldl (cardS p) (0,false)) rfl (fun l x ih => ?_) cs
  rw [cardMs_snoc,cardM_look,ih,List.foldl_append];rfl
theorem cardMs_bd (cs : List FCard) (p : Int) : 0 ≤ ((lookA p (cardMs cs)).getD (0,false)).1 ∧ ((lookA p (cardMs cs)).getD (0,false)).1 ≤ 2:=by
  rw [cardMs_look];exact cardS_bd p cs (0,false) ⟨by decide,by decide⟩
theorem shownE_c (h : Ro) (s : Fsh) (x : FSheet) (hx : ShAt h s x) (hl : x.hc.length ≤ 1000 ∧ x.ac.length ≤ 1000) : Fn Tryz.prog 83 #[sheetV s x] [] h fun u Es h' => ∃ bm m,u = .map (some bm) ∧ Es = [MapA ekN evCd bm m] ∧ ∀ p,(lookA p m).getD (0,false) = cardsF x p:=by
  refine Fn_intro (args:=[_]) ts_ok Go.Proofs.Tryz.func83 rfl rfl fun w0 X0 => ?_
  have hn1:=hx.hc.len
  have hn2:=hx.ac.len
  obtain ⟨cs,hcs⟩ : ∃ cs,cs = x.hc ++ x.ac:=⟨_,rfl⟩
  have hcl : cs.length = s.hc.n + s.ac.n:=by rw [hcs,List.length_append,hn1,hn2]
  repeat' (first|apply GO_seq|apply GO_block|apply GO_region|apply GOl_nil|(apply GOl_pv;(iterate 3 exact rfl))|(apply GOl_load;exact rfl;exact Ld_blk rfl QM rfl;exact rfl;exact rfl)|(apply GOl_to;(iterate 3 exact rfl);(first|(apply OpTo_box;exact rfl;intro b;skip)|(apply OpTo_makeMap ekN evCd;intro bm;skip)|(apply OpTo_buildSliceR (e:=38) (cs:=[.slice s.hc.A s.hc.n s.hc.c,.slice s.ac.A s.ac.n s.ac.c]);(iterate 3 exact rfl);exact List.cons_ne_nil _ _;(iterate 4 exact rfl);intro b1 h1 hle1 hcs1;skip)|(apply OpTo_res;exact rfl;exact has164;exact concatC_c _ s.hc.A s.ac.A s.hc.n s.hc.c s.ac.n s.ac.c b1 x.hc x.ac (hx.hc.le (by first|exact Le.refl _|assumption|(repeat (first|assumption|(apply Le.trans;assumption))))) (hx.ac.le (by first|exact Le.refl _|assumption|(repeat (first|assumption|(apply Le.trans;assumption))))) (by omega) (by omega) hcs1;rintro vc h2 hle2 ⟨A2,c2,rfl,hs2⟩;skip))))
  rw [← hcs] at hs2
  have hK:=KN
  refine GO_loopT (X:=Nat) (fun k => k ≤ s.hc.n + s.ac.n) (fun k => s.hc.n + s.ac.n - k)
    (fun k => [(15,.int .i64 k),(14,.int .i64 ((s.hc.n + s.ac.n : Nat) : Int)),(13,.slice A2 (s.hc.n + s.ac.n) c2),(3,.map (some bm))])
    (fun k => [MapA ekN evCd bm (cardMs (cs.take k))]) (fun _ => h2) 0 (by omega) QS QT rfl ?_
  rintro k hk ih
  by_cases hkn : k < s.hc.n + s.ac.n
  · have a1:=hs2.addrD hkn
    have c1:=hs2.cellsD card0 hkn
    have et:=take7 card0 (xs:=cs) hcl hkn
    generalize cs.getD k card0 = z at *
    have hsn:=cardMs_snoc (cs.take k) z
    have hbd:=cardMs_bd (cs.take k) z.p
    rw [← et] at hsn
    have h3:=ih (k + 1) (by omega) (by omega)
    rw [hsn] at h3
    generalize cardMs (cs.take k) = m at *
    unfold cardM at h3
    obtain ⟨q,hq⟩ : ∃ q,(lookA z.p m).getD (0,false) = q:=⟨_,rfl⟩
    rw [hq] at h3 hbd
    unfold cardS at h3
    rw [if_pos rfl] at h3
    obtain ⟨zp,zr⟩:=z
    obtain ⟨q1,q2⟩:=q
    dsimp only at hq hbd h3 a1 c1
    cases zr
    · rw [if_neg (by decide)] at h3
      repeat' (first|apply GO_seq|apply GO_skip|apply GO_inBlock|apply GO_block|apply GO_region|apply GOl_nil|(apply GOl_min;(iterate 3 exact rfl);intro wn hwn)|(apply GOl_add;(iterate 3 exact rfl);omega;exact rfl;exact rfl)|(apply GOl_pv;(iterate 3 exact rfl))|(apply GOl_load;exact rfl;exact Ld_blk rfl QM rfl;exact rfl;exact rfl)|(apply GOl_ov;exact rfl;exact rfl;(first|(apply OV_idxS (j:=k);(iterate 5 exact rfl);exact a1;(with_reducible exact rfl);omega)|(apply OV_load;exact rfl;exact Lv_ro rfl c1 rfl)|(apply OV_lookD (ek:=ekN) (ev:=evCd) (z0:=(0,false)) (key:=zp) (b:=bm) (m:=m) hK;(iterate 6 exact rfl);exact hq));exact QA)|(apply GOl_to;(iterate 3 exact rfl);(first|(apply OpTo_store;(iterate 3 exact rfl);exact QR;(iterate 3 exact rfl);skip)|(apply OpTo_alloc;exact rfl;intro b;skip)|(apply OpTo_mapUpdate (ek:=ekN) (ev:=evCd) (b:=bm) (m:=m) (key:=zp) (u:=(min 2 (q1 + 1),q2)) hK;(iterate 5 exact rfl);rw [hwn];exact rfl;exact QR;skip)))|(apply GO_cond;exact rfl;all_goals (intro hc;try simp only [hcS,reduceCtorEq] at hc;try (exfalso;omega))))
      all_goals first
        | (exfalso;omega)
        | (exfalso;simp at hc;done)
        | (refine GO_fit QS QT (h3))
    · rw [if_pos rfl] at h3
      repeat' (first|apply GO_seq|apply GO_skip|apply GO_inBlock|apply GO_block|apply GO_region|apply GOl_nil|(apply GOl_add;(iterate 3 exact rfl);omega;exact rfl;exact rfl)|(apply GOl_pv;(iterate 3 exact rfl))|(apply GOl_load;exact rfl;exact Ld_blk rfl QM rfl;exact rfl;exact rfl)|(apply GOl_ov;exact rfl;exact rfl;(first|(apply OV_idxS (j:=k);(iterate 5 exact rfl);exact a1;(with_reducible exact rfl);omega)|(apply OV_load;exact rfl;exact Lv_ro rfl c1 rfl)|(apply OV_lookD (ek:=ekN) (ev:=evCd) (z0:=(0,false)) (key:=zp) (b:=bm) (m:=m) hK;(iterate 6 exact rfl);exact hq));exact QA)|(apply GOl_to;(iterate 3 exact rfl);(first|(apply OpTo_store;(iterate 3 exact rfl);exact QR;(iterate 3 exact rfl);skip)|(apply OpTo_alloc;exact rfl;intro b;skip)|(apply OpTo_mapUpdate (ek:=ekN) (ev:=evCd) (b:=bm) (m:=m) (key:=zp) (u:=(q1,true)) hK;(iterate 6 exact rfl);exact QR;skip)))|(apply GO_cond;exact rfl;all_goals (intro hc;try simp only [hcS,reduceCtorEq] at hc;try (exfalso;omega))))
      all_goals first
        | (exfalso;omega)
        | (exfalso;simp at hc;done)
        | (refine GO_fit QS QT (h3))
  · rw [List.take_of_length_le (by omega)]
    clear ih
    repeat' (first|apply GO_seq|apply GO_region|apply GOl_nil|(apply GO_exit;exact rfl)|(apply GOl_pv;(iterate 3 exact rfl))|(apply GO_cond;exact rfl;all_goals (intro hc;try simp only [hcS,reduceCtorEq] at hc;try (exfalso;omega))))
    all_goals first
      | (exfalso;omega)
      | (exact GO_retS1 rfl rfl rfl (by (repeat (first|exact List.Sublist.refl _|exact List.nil_sublist _|apply List.Sublist.cons_cons|apply List.Sublist.cons));done) ⟨bm,cardMs cs,rfl,rfl,fun p => by rw [cardMs_look,hcs];rfl⟩)
def encM2 (m : Int × Int) : List Value:=[.int .i64 m.1,.int .i64 m.2]
def m0 : Int × Int:=(0,0)
theorem members1_c (h : Ro) (x y : Int × Int) : Val Tryz.prog 166 #[.agg (encM2 x).toArray,.agg (encM2 y).toArray] h (.int .i64 (cmpI x.1 y.1)):=by
  refine Val_intro (args:=[_,_]) ts_ok Go.Proofs.Tryz.func166 rfl rfl fun w0 X0 => ?_
  repeat' (first|apply GO_seq|apply GO_region|apply GOl_nil|(apply GOl_pv;(iterate 3 exact rfl))|(apply GOl_load;exact rfl;exact Ld_blk rfl QM rfl;exact rfl;exact rfl)|(apply GOl_to;(iterate 3 exact rfl);(first|(apply OpTo_box;exact rfl;intro b;skip)|(apply OpTo_val;exact rfl;exact has71;exact cmpI7_c _ _ _;skip)))|(apply GO_retV1;(iterate 3 exact rfl)))
  all_goals rfl
theorem ltOfM (x y : Int × Int) : Go.Proofs.ltOf (fun (x y : Int × Int) => cmpI x.1 y.1) x y = decide (x.1 < y.1):=by
  unfold Go.Proofs.ltOf
  rw [decide_eq_decide];exact cmpI_lt
theorem cmpM_swo : Go.Sort.SWO (Go.Proofs.ltOf fun (x y : Int × Int) => cmpI x.1 y.1) where
  irrefl x:=by rw [ltOfM,decide_eq_false_iff_not];omega
  trans x y z h1 h2:=by rw [ltOfM,decide_eq_true_eq] at *;omega
  ntrans x y z h1 h2:=by rw [ltOfM,decide_eq_false_iff_not] at *;omega
theorem sortM_c (h : Ro) (v : Value) (xs : List (Int × Int)) (n : Nat) (hn : n ≤ 1000000) (hx : xs.length = n) :
    Fn Tryz.prog 165 #[v,.func (.func 166) #[] #[]] [OwnS 140 2 v n (xs.flatMap encM2)] h fun u Es _ => u = .tuple #[] ∧ ∃ ys : List (Int × Int),ys.Perm xs ∧ (ys.Pairwise fun x y => x.1 ≤ y.1) ∧ Es = [OwnS 140 2 v n (ys.flatMap encM2)]:=by
  have hN : ∀ (p : Option Addr) (cap : Nat) (w : World),Calls Tryz.prog 165 #[.slice p 0 cap,.func (.func 166) #[] #[]] w fun e w' => e = .returned (.tuple #[]) ∧ w' = w:=fun p cap w => Go.Proofs.AnyF.slices_SortFunc_none Go.Proofs.Tryz.sortMembers p cap _ w
  have hC : ∀ (blk off cap : Nat) (d : Array (Int × Int)) (w : World),Go.Proofs.CmpLays Tryz.prog 166 #[] encM2 2 (fun x y => cmpI x.1 y.1) blk off d.size w → Go.Sort.HoldsK encM2 2 w blk off d → blk < w.heap.size → d.size < 4611686018427387904 →
      Calls Tryz.prog 165 #[.slice (some ⟨blk,off,none⟩) d.size cap,.func (.func 166) #[] #[]] w fun e w' => e = .returned (.tuple #[]) ∧ ∃ d' n os,Go.Sort.PermIn 0 d.size d d' ∧ Go.Sort.SortedIn (Go.Proofs.ltOf fun (x y : Int × Int) => cmpI x.1 y.1) 0 d.size d' ∧ w' = Go.Proofs.sortWorldK encM2 2 w blk off n d' os:=fun blk off cap d w hc hH hb hs =>
    Go.Proofs.AnyQ.slices_SortFunc Go.Proofs.Tryz.sortMembers 2 (fun w => ts_ok.run_agg (n:=140) rfl w) (fun w => ts_ok.run_size (n:=140) rfl w) encM2 (fun _ => rfl) (fun a => allOne_ok rfl) (fun x y => cmpI x.1 y.1) cmpM_swo 166 #[] blk off cap d w (Go.Proofs.enters_of Go.Proofs.Tryz.func166 (by kernel_rfl) rfl) hc hH hb hs
  have hcmp : ∀ x y : Int × Int,Res Tryz.prog 166 (#[.agg (encM2 x).toArray,.agg (encM2 y).toArray] ++ #[]) h fun u _ => u = .int .i64 (cmpI x.1 y.1):=fun x y => by
    rw [Array.append_empty]
    exact Res_of_val (members1_c h x y)
  have key:=sortFnP (α:=Int × Int) (P:=Tryz.prog) (f:=165) (gf:=166) (cb:=#[]) encM2 2 (fun _ => rfl) (by decide) (fun x y => cmpI x.1 y.1) h hC hN hcmp 140 v xs n (by omega) hx
  refine key.mono ?_
  rintro u Es h' hle ⟨rfl,ys,hp,hso,rfl⟩
  refine ⟨rfl,ys,hp,hso.imp fun {a b} hab => ?_,rfl⟩
  rw [ltOfM,decide_eq_false_iff_not] at hab
  omega
def memU (x : FSheet) : List (Int × Int):=x.hs.map (fun p => (p,x.g.h)) ++ x.as.map fun p => (p,x.g.a)
theorem sorted_mem {x : FSheet} (hx : SheetOk x) {ys : List (Int × Int)} (hp : ys.Perm (memU x)) (hs : ys.Pairwise fun a b => a.1 ≤ b.1) : IsMem x ys:=by
  obtain ⟨_,_,_,_,_,h1,h2,_,_,h3⟩:=hx
  have hn : ((memU x).map (·.1)).Nodup:=by
    unfold memU
    rw [List.map_append,List.map_map,List.map_map]
    refine List.nodup_append.2 ⟨?_,?_,?_⟩
    · rw [show x.hs.map ((fun m : Int × Int => m.1) ∘ fun p => (p,x.g.h)) = x.hs by simp [Function.comp_def]]
      exact h1.2.2.imp fun {a b} hab e => by omega
    · rw [show x.as.map ((fun m : Int × Int => m.1) ∘ fun p => (p,x.g.a)) = x.as by simp [Function.comp_def]]
      exact h2.2.2.imp fun {a b} hab e => by omega
    · intro a ha b hb e
      simp only [Function.comp_def,List.map_id'] at ha hb
      subst e
      exact h3 a ha hb
  have hn2 : (ys.map (·.1)).Nodup:=(hp.map _).nodup_iff.2 hn
  refine ⟨?_,fun m => ?_⟩
  · have h5 : ys.Pairwise fun a b => a.1 ≠ b.1:=List.pairwise_map.1 hn2
    exact (List.pairwise_and_iff.2 ⟨hs,h5⟩).imp fun {a b} ⟨q1,q2⟩ => by omega
  · rw [hp.mem_iff]
    unfold memU
    rw [List.mem_append,List.mem_map,List.mem_map]
    obtain ⟨a,b⟩:=m
    constructor
    · rintro (⟨p,q,e⟩|⟨p,q,e⟩)
      · cases e;exact .inl ⟨q,rfl⟩
      · cases e;exact .inr ⟨q,rfl⟩
    · rintro (⟨q,e⟩|⟨q,e⟩)
      · dsimp only at q e;subst e;exact .inl ⟨a,q,rfl⟩
      · dsimp only at q e;subst e;exact .inr ⟨a,q,rfl⟩
theorem members_c (h : Ro) (s : Fsh) (x : FSheet) (hx : ShAt h s x) (hok : SheetOk x) : Res Tryz.prog 84 #[sheetV s x] h fun u h' => ∃ A' c',u = .slice A' (memS x).length c' ∧ SlOf encM2 2 h' A' (memS x).length (memS x) ∧ IsMem x (memS x):=by
  refine Res_intro (args:=[_]) ts_ok Go.Proofs.Tryz.func84 rfl rfl fun w0 X0 => ?_
  have hn1:=hx.hs.len
  have hn2:=hx.as.len
  obtain ⟨l1,l2⟩ : x.hs.length ≤ 40 ∧ x.as.length ≤ 40:=⟨hok.2.2.2.2.2.1.1,hok.2.2.2.2.2.2.1.1⟩
  have hh:=hx.hs
  have ha:=hx.as
  repeat' (first|apply GO_seq|apply GO_block|apply GO_region|apply GOl_nil|(apply GOl_pv;(iterate 3 exact rfl))|(apply GOl_load;exact rfl;exact Ld_blk rfl QM rfl;exact rfl;exact rfl)|(apply GOl_to;(iterate 3 exact rfl);(first|(apply OpTo_box;exact rfl;intro b;skip))))
  generalize b = b1
  refine GO_nilS 140 2 ?_
  refine GO_loopT (X:=Nat × Option Addr × Nat × Ro) (fun y => y.1 ≤ s.hs.n ∧ Le h y.2.2.2) (fun y => s.hs.n - y.1)
    (fun y => [(10,.int .i64 y.1),(9,.int .i64 s.hs.n),(8,.slice s.hs.A s.hs.n s.hs.c),(2,.slice y.2.1 y.1 y.2.2.1),(1,ptrV b1)])
    (fun y => [Blk b1 40 (sheetC s x),OwnS 140 2 (.slice y.2.1 y.1 y.2.2.1) y.1 (((x.hs.take y.1).map (fun p => (p,x.g.h))).flatMap encM2)]) (fun y => y.2.2.2) (0,none,0,h) ⟨by dsimp only;omega,Le.refl _⟩ QS QT rfl ?_
  rintro ⟨k,A4,c4,hk4⟩ ⟨hk,hle⟩ ih
  dsimp only at hk hle ih ⊢
  by_cases hkn : k < s.hs.n
  · have a1:=hh.addrD hkn
    have c1:=(hh.cellsD 0 hkn).le hle
    have et:=take7 0 (xs:=x.hs) hn1 hkn
    generalize x.hs.getD k 0 = p at *
    repeat' (first|apply GO_seq|apply GO_skip|apply GO_inBlock|apply GO_block|apply GO_region|apply GOl_nil|(apply GOl_add;(iterate 3 exact rfl);omega;exact rfl;exact rfl)|(apply GOl_pv;(iterate 3 exact rfl))|(apply GOl_load;exact rfl;exact Ld_blk rfl QM rfl;exact rfl;exact rfl)|(apply GOl_ov;exact rfl;exact rfl;(first|(apply OV_idxS (j:=k);(iterate 5 exact rfl);exact a1;(with_reducible exact rfl);omega)|(apply OV_load;exact rfl;exact Lv_ro rfl c1 rfl));exact QA)|(apply GOl_to;(iterate 3 exact rfl);(first|(apply OpTo_buildSliceS (enc:=encM2) (n:=1) [(p,x.g.h)];(iterate 3 exact rfl);exact List.cons_ne_nil _ _;(iterate 4 exact rfl);exact fun _ => rfl;exact rfl;exact rfl;intro b5 h5 hle5 hs5;skip)|(apply OpTo_appendS (enc:=encM2) (xs:=(x.hs.take k).map (fun p => (p,x.g.h)));(iterate 7 exact rfl);exact hs5;exact fun _ => rfl;exact fun x => allOne_ok rfl;intro v1;exact QR;omega;exact rfl;intro A5 c5;skip)))|(apply GO_cond;exact rfl;all_goals (intro hc;try simp only [hcS,reduceCtorEq] at hc;try (exfalso;omega))))
    all_goals first
      | (exfalso;omega)
      | (have h3:=ih (k + 1,A5,c5,h5) ⟨by dsimp only;omega,hle.trans hle5⟩ (by dsimp only;omega)
         dsimp only at h3
         rw [et,List.map_append] at h3
         refine GO_fit QS QT (h3))
  · rw [List.take_of_length_le (by omega)]
    have ek : k = s.hs.n:=by omega
    subst ek
    clear ih
    repeat' (first|apply GO_seq|apply GO_block|apply GO_region|apply GOl_nil|(apply GO_exit;exact rfl)|(apply GOl_pv;(iterate 3 exact rfl))|(apply GOl_load;exact rfl;exact Ld_blk rfl QM rfl;exact rfl;exact rfl)|(apply GO_cond;exact rfl;all_goals (intro hc;try simp only [hcS,reduceCtorEq] at hc;try (exfalso;omega))))
    all_goals (try (exfalso;omega))
    refine GO_loopT (X:=Nat × Option Addr × Nat × Ro) (fun y => y.1 ≤ s.as.n ∧ Le hk4 y.2.2.2) (fun y => s.as.n - y.1)
      (fun y => [(26,.int .i64 y.1),(25,.int .i64 s.as.n),(24,.slice s.as.A s.as.n s.as.c),(2,.slice y.2.1 (s.hs.n + y.1) y.2.2.1),(1,ptrV b1)])
      (fun y => [Blk b1 40 (sheetC s x),OwnS 140 2 (.slice y.2.1 (s.hs.n + y.1) y.2.2.1) (s.hs.n + y.1) ((x.hs.map (fun p => (p,x.g.h)) ++ (x.as.take y.1).map (fun p => (p,x.g.a))).flatMap encM2)]) (fun y => y.2.2.2) (0,A4,c4,hk4) ⟨by dsimp only;omega,Le.refl _⟩ QS (by rw [List.take_zero,List.map_nil,List.append_nil];exact QT) rfl ?_
    rintro ⟨k,A6,c6,hk6⟩ ⟨hk,hle2⟩ ih
    dsimp only at hk hle2 ih ⊢
    by_cases hkn : k < s.as.n
    · have a1:=ha.addrD hkn
      have c1:=(ha.cellsD 0 hkn).le (hle.trans hle2)
      have et:=take7 0 (xs:=x.as) hn2 hkn
      generalize x.as.getD k 0 = p at *
      repeat' (first|apply GO_seq|apply GO_skip|apply GO_inBlock|apply GO_block|apply GO_region|apply GOl_nil|(apply GOl_add;(iterate 3 exact rfl);omega;exact rfl;exact rfl)|(apply GOl_pv;(iterate 3 exact rfl))|(apply GOl_load;exact rfl;exact Ld_blk rfl QM rfl;exact rfl;exact rfl)|(apply GOl_ov;exact rfl;exact rfl;(first|(apply OV_idxS (j:=k);(iterate 5 exact rfl);exact a1;(with_reducible exact rfl);omega)|(apply OV_load;exact rfl;exact Lv_ro rfl c1 rfl));exact QA)|(apply GOl_to;(iterate 3 exact rfl);(first|(apply OpTo_buildSliceS (enc:=encM2) (n:=1) [(p,x.g.a)];(iterate 3 exact rfl);exact List.cons_ne_nil _ _;(iterate 4 exact rfl);exact fun _ => rfl;exact rfl;exact rfl;intro b5 h5 hle5 hs5;skip)|(apply OpTo_appendS (enc:=encM2) (xs:=x.hs.map (fun p => (p,x.g.h)) ++ (x.as.take k).map (fun p => (p,x.g.a)));(iterate 7 exact rfl);exact hs5;exact fun _ => rfl;exact fun x => allOne_ok rfl;intro v1;exact QR;omega;exact rfl;intro A5 c5;skip)))|(apply GO_cond;exact rfl;all_goals (intro hc;try simp only [hcS,reduceCtorEq] at hc;try (exfalso;omega))))
      all_goals first
        | (exfalso;omega)
        | (have h3:=ih (k + 1,A5,c5,h5) ⟨by dsimp only;omega,hle2.trans hle5⟩ (by dsimp only;omega)
           dsimp only at h3
           rw [et,List.map_append,← List.append_assoc] at h3
           refine GO_fit QS QT (h3))
    · rw [List.take_of_length_le (by omega)]
      have ek : k = s.as.n:=by omega
      subst ek
      clear ih
      have hml : (memU x).length = s.hs.n + s.as.n:=by unfold memU;rw [List.length_append,List.length_map,List.length_map,hn1,hn2]
      rw [show x.hs.map (fun p => (p,x.g.h)) ++ x.as.map (fun p => (p,x.g.a)) = memU x from rfl]
      repeat' (first|apply GO_seq|apply GO_region|apply GOl_nil|(apply GO_exit;exact rfl)|(apply GOl_pv;(iterate 3 exact rfl))|(apply GOl_to;(iterate 3 exact rfl);(first|(apply OpTo_callP;exact rfl;exact has165;exact sortM_c _ _ (memU x) (s.hs.n + s.as.n) (by omega) hml;exact QT;rintro vs Es9 h9 hle9 ⟨rfl,ys,hpm,hso,rfl⟩;skip)))|(apply GO_cond;exact rfl;all_goals (intro hc;try simp only [hcS,reduceCtorEq] at hc;try (exfalso;omega))))
      all_goals (try (exfalso;omega))
      have hyl : ys.length = s.hs.n + s.as.n:=by rw [hpm.length_eq,hml]
      refine GO_relC (enc:=encM2) (e:=140) (sz:=2) (n:=s.hs.n + s.as.n) (xs:=ys) (fun _ => rfl) hyl QK ?_
      intro A7 c7 h7 hle7 e7 hnc7 hs7
      cases e7
      have him:=sorted_mem hok hpm hso
      have hye:=memS_of him
      rw [← hye]
      rw [← hyl] at hs7
      skip
      all_goals first
        | (exact GO_retR1 rfl rfl rfl ⟨A6,c6,by rw [hyl],hs7,him⟩)
end Go.Hw

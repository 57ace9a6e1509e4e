import Derived.Test.YtajmniiiahhfaaaGreatDoorEC
import Derived.Test.YtajmniiiahhfaaaGreatDoorUR2s
import Derived.Test.YtajmniiiahhfaaaGreatDoorFB
set_option linter.unusedVariables false
set_option linter.unusedSimpArgs false
set_option maxRecDepth 100000
set_option maxHeartbeats 8000000
namespace Go.Hw
open Go
attribute [local irreducible] GO GOl GDp Val Fn Res CellsAt ValE Blk OwnS MapA OwnPf Has Yl idF
open Go.Proofs (Tryz.prog)
abbrev DgK : Type:={d : List UInt8 // d.length = 32}
def kD (d : List UInt8) : DgK:=if h : d.length = 32 then ⟨d,h⟩ else ⟨List.replicate 32 0,rfl⟩
theorem kD_eq {d : List UInt8} (h : d.length = 32) : kD d = ⟨d,h⟩:=dif_pos h
def dkV (d : DgK) : Value:=.agg (voidC d.1).toArray
theorem voidC_inj {a b : List UInt8} (ha : a.length = 32) (hb : b.length = 32) (e : voidC a = voidC b) : a = b:=by
  rw [voidC_eq a ha,voidC_eq b hb,map_u8,map_u8] at e
  exact (List.map_inj_right (fun x y q => by injection q with _ q;exact UInt8.toNat_inj.1 (by omega))).1 e
theorem KD : KeyT Tryz.prog 71 dkV:=by
  refine KeyT.array (T:=_) (E:=_) (m:=32) (q:=.u8) ts_ok rfl rfl rfl rfl rfl rfl (fun d : DgK => voidC d.1) (fun x y e => Subtype.ext (voidC_inj x.2 y.2 e)) (fun x => rfl) (fun x y => ?_) ?_ (fun x v hv => ?_)
  · rw [void_eq x.1 y.1 x.2 y.2]
    congr 1
    rw [decide_eq_decide]
    exact ⟨Subtype.ext,fun e => by rw [e]⟩
  · kernel_rfl
  · rw [voidC_eq x.1 x.2,map_u8] at hv
    obtain ⟨u,_,rfl⟩:=List.mem_map.1 hv
    exact ⟨_,rfl⟩
def vmap (l : List (Fsh × Fct)) : List (DgK × Bool):=l.foldl (fun m p => if p.2.kind = 8 then insA (kD p.2.void) true m else m) []
theorem vmap_snoc (l : List (Fsh × Fct)) (p : Fsh × Fct) : vmap (l ++ [p]) = if p.2.kind = 8 then insA (kD p.2.void) true (vmap l) else vmap l:=by unfold vmap;rw [List.foldl_append];rfl
open Classical in
theorem vmap_spec : ∀ n,∀ l : List (Fsh × Fct),l.length = n → ∀ d,lookA d (vmap l) = if ∃ p ∈ l,p.2.kind = 8 ∧ kD p.2.void = d then some true else none:=by
  intro n
  induction n with
  | zero =>
    intro l hl d
    have : l = []:=List.length_eq_zero_iff.1 hl
    subst this
    simp [vmap,lookA]
  | succ n ih =>
    intro l hl d
    obtain ⟨l0,p,rfl⟩ : ∃ l0 p,l = l0 ++ [p]:=by
      refine ⟨l.dropLast,l.getLast (by intro e;subst e;simp at hl),(List.dropLast_concat_getLast _).symm⟩
    have hl0 : l0.length = n:=by rw [List.length_append] at hl;simpa using hl
    rw [vmap_snoc]
    by_cases h8 : p.2.kind = 8
    · rw [if_pos h8,look7,ih l0 hl0]
      by_cases hd : kD p.2.void = d
      · rw [if_pos hd,if_pos ⟨p,by simp,h8,hd⟩]
      · rw [if_neg hd]
        congr 1
        simp only [List.mem_append,List.mem_singleton,eq_iff_iff]
        constructor
        · rintro ⟨q,h1,h2⟩;exact ⟨q,.inl h1,h2⟩
        · rintro ⟨q,h1|h1,h2⟩
          · exact ⟨q,h1,h2⟩
          · subst h1;exact absurd h2.2 hd
    · rw [if_neg h8,ih l0 hl0]
      congr 1
      simp only [List.mem_append,List.mem_singleton,eq_iff_iff]
      constructor
      · rintro ⟨q,h1,h2⟩;exact ⟨q,.inl h1,h2⟩
      · rintro ⟨q,h1|h1,h2⟩
        · exact ⟨q,h1,h2⟩
        · subst h1;exact absurd h2.1 h8
theorem vmap_len (l : List (Fsh × Fct)) : (vmap l).length ≤ l.length:=by
  have : ∀ n,∀ l : List (Fsh × Fct),l.length = n → (vmap l).length ≤ n:=by
    intro n
    induction n with
    | zero => intro l hl;have : l = []:=List.length_eq_zero_iff.1 hl;subst this;exact Nat.le_refl _
    | succ n ih =>
      intro l hl
      obtain ⟨l0,p,rfl⟩ : ∃ l0 p,l = l0 ++ [p]:=by
        refine ⟨l.dropLast,l.getLast (by intro e;subst e;simp at hl),(List.dropLast_concat_getLast _).symm⟩
      have hl0 : l0.length = n:=by rw [List.length_append] at hl;simpa using hl
      have q:=ih l0 hl0
      rw [vmap_snoc]
      have hi : ∀ (m : List (DgK × Bool)) (x : DgK),(insA x true m).length ≤ m.length + 1:=by
        intro m x
        induction m with
        | nil => exact Nat.le_refl _
        | cons a m ih2 => unfold insA;split <;> simp_all
      split
      · exact Nat.le_trans (hi _ _) (by omega)
      · omega
  exact this _ l rfl
open Classical in
noncomputable def viewE (l : List Fct) (day known : Int) : List Fct × Int:=if ledE l ≠ 0 then ([],ledE l) else if ¬ (0 ≤ day ∧ day ≤ 1048576) ∨ ¬ (0 ≤ known ∧ known ≤ 1048576) then ([],1) else (viewL idF l day known,0)
open Classical in
noncomputable def viewP (l : List (Fsh × Fct)) (day known : Int) (x : List (Fsh × Fct)) : List (Fsh × Fct):=x.filter fun p => decide (InF idF (fcs l) day known p.2)
theorem viewP_snoc (l : List (Fsh × Fct)) (d k : Int) (x : List (Fsh × Fct)) (p : Fsh × Fct) : viewP l d k (x ++ [p]) = viewP l d k x ++ viewP l d k [p]:=by unfold viewP;rw [List.filter_append]
open Classical in
theorem viewP_fcs (l : List (Fsh × Fct)) (d k : Int) : fcs (viewP l d k (recL l k)) = viewL idF (fcs l) d k:=by
  unfold viewP recL viewL
  rw [List.filter_filter]
  unfold fcs
  rw [List.filter_map]
  congr 1
  refine List.filter_congr fun p hp => ?_
  rw [← Bool.decide_and]
  exact decide_eq_decide.2 ⟨fun h => h.1,fun h => ⟨h,h.1⟩⟩
theorem voidBy_rec {l : List (Fsh × Fct)} {k : Int} {f : Fct} : VoidBy idF (fcs l) k f ↔ ∃ p ∈ recL l k,p.2.kind = 8 ∧ p.2.void = idF f:=by
  unfold VoidBy fcs recL
  constructor
  · rintro ⟨v,hv,h8,hk,e⟩
    obtain ⟨p,hp,rfl⟩:=List.mem_map.1 hv
    exact ⟨p,List.mem_filter.2 ⟨hp,decide_eq_true hk⟩,h8,e⟩
  · rintro ⟨p,hp,h8,e⟩
    obtain ⟨h1,h2⟩:=List.mem_filter.1 hp
    exact ⟨p.2,List.mem_map.2 ⟨p,h1,rfl⟩,h8,of_decide_eq_true h2,e⟩
theorem in_vmap {l : List (Fsh × Fct)} {k : Int} {f : Fct} (hg : ∀ p ∈ recL l k,p.2.void.length = 32) : (∃ p ∈ recL l k,p.2.kind = 8 ∧ kD p.2.void = kD (idF f)) ↔ VoidBy idF (fcs l) k f:=by
  rw [voidBy_rec]
  constructor
  · rintro ⟨p,hp,h8,e⟩
    rw [kD_eq (hg p hp),kD_eq (idF_len f)] at e
    exact ⟨p,hp,h8,congrArg Subtype.val e⟩
  · rintro ⟨p,hp,h8,e⟩
    exact ⟨p,hp,h8,by rw [e]⟩
end Go.Hw
set_option linter.unusedVariables false
set_option linter.unusedSimpArgs false
set_option maxRecDepth 100000
set_option maxHeartbeats 8000000
namespace Go.Hw
open Go
attribute [local irreducible] GO GOl GDp Val Fn Res CellsAt ValE Blk OwnS MapA OwnPf Has Yl idF vmap viewP kD
open Go.Proofs (Tryz.prog)
theorem viewP_0 (l : List (Fsh × Fct)) (d k : Int) : viewP l d k [] = []:=by unfold viewP;rfl
theorem viewP_len (l : List (Fsh × Fct)) (d k : Int) (x : List (Fsh × Fct)) : (viewP l d k x).length ≤ x.length:=by unfold viewP;exact List.length_filter_le _ _
open Classical in
theorem viewP_one (l : List (Fsh × Fct)) (d k : Int) (x : Fsh × Fct) : viewP l d k [x] = if InF idF (fcs l) d k x.2 then [x] else []:=by
  unfold viewP
  by_cases h : InF idF (fcs l) d k x.2 <;> simp [h]
theorem viewP_sub (l : List (Fsh × Fct)) (d k : Int) (x : List (Fsh × Fct)) : ∀ p ∈ viewP l d k x,p ∈ x:=fun p hp => by
  unfold viewP at hp
  exact (List.mem_filter.1 hp).1
theorem vmap_0 : vmap [] = []:=by unfold vmap;rfl
open Classical in
theorem view_c (h : Ro) (hG : PowG h) (A : Option Addr) (n c : Nat) (l : List (Fsh × Fct)) (hx : FactsAt h A n l) (day known : Int) : Res Tryz.prog 37 #[ledV A n c,.int .i64 day,.int .i64 known] h (fun u h' => ∃ A' k c' l',u = .tuple #[.slice A' k c',.int .i64 (viewE (fcs l) day known).2] ∧ k ≤ c' ∧ FactsAt h' A' k l' ∧ fcs l' = (viewE (fcs l) day known).1):=by
  refine Res_intro (args:=[_,_,_]) ts_ok Go.Proofs.Tryz.func37 rfl rfl fun w0 X0 => ?_
  obtain ⟨e,he⟩ : ∃ e,e = ledE (fcs l):=⟨_,rfl⟩
  have hck : ∀ h',Le h h' → Res Tryz.prog 35 #[ledV A n c] h' (fun u _ => u = .int .i64 e):=fun h' hl => by rw [he];exact checkL_c h' (hG.le hl) A n c l (hx.le hl)
  have hn:=hx.small
  have hlen:=hx.row.len
  by_cases h0 : e = 0
  · by_cases h1 : (0 ≤ day ∧ day ≤ 1048576) ∧ (0 ≤ known ∧ known ≤ 1048576)
    · have hkn : viewE (fcs l) day known = (viewL idF (fcs l) day known,0):=by unfold viewE;rw [if_neg (by rw [← he];omega),if_neg (by omega)]
      rw [hkn]
      have hok:=ledE_zero.1 (he ▸ h0)
      have hg : ∀ p ∈ l,FGd h p:=fun p hp => ⟨(hx.fat p hp).1,(hx.fat p hp).2,hok.2.1 _ (List.mem_map.2 ⟨p,hp,rfl⟩)⟩
      have hrl:=recL_len l known
      have hdv:=fun h' => isDay_c h' day
      have hdk:=fun h' => isDay_c h' known
      rw [decide_eq_true h1.1] at hdv
      rw [decide_eq_true h1.2] at hdk
      repeat' (first|apply GO_seq|apply GO_region|apply GOl_nil|(apply GOl_load;exact rfl;exact Ld_blk rfl QM rfl;exact rfl;exact rfl)|(apply GOl_to;(iterate 3 exact rfl);(first|(apply OpTo_box;exact rfl;intro b;skip)|(apply OpTo_alloc;exact rfl;intro b;skip))))
      rename_i b3 b4 b6
      generalize b = b7
      repeat' (first|apply GO_seq|apply GO_skip|apply GO_block|apply GO_region|apply GOl_nil|(apply GOl_pv;(iterate 3 exact rfl))|(apply GOl_load;exact rfl;exact Ld_blk rfl QM rfl;exact rfl;exact rfl)|(apply GOl_to;(iterate 3 exact rfl);(first|(apply OpTo_store;(iterate 3 exact rfl);exact QR;(iterate 3 exact rfl);skip)|(apply OpTo_alloc;exact rfl;intro b;skip)|(apply OpTo_res;exact rfl;exact has35;exact hck _ (by first|exact Le.refl _|assumption|(repeat (first|assumption|(apply Le.trans;assumption))));rintro v1 h3 hle1 rfl;skip)|(apply OpTo_val;exact rfl;exact has78;exact hdv _;skip)|(apply OpTo_val;exact rfl;exact has78;exact hdk _;skip)|(apply OpTo_makeMap dkV Value.bool;intro bm;skip)|(apply OpTo_res;exact rfl;exact has79;exact recorded_c _ A n c known;rintro v4 h4 hle4 ⟨b1,b2,rfl,hb1,hb2⟩;skip)))|(apply GO_cond;exact rfl;all_goals (intro hc;try simp only [hcS,reduceCtorEq] at hc;try (exfalso;omega))))
      all_goals (try (exfalso;omega))
      generalize b = b9
      have hl4 : Le h h4:=(by first|exact Le.refl _|assumption|(repeat (first|assumption|(apply Le.trans;assumption))))
      refine GO_take (Es':=[MapA dkV Value.bool bm [],Blk b3 47 [.slice A n c],Blk b4 3 [.int .i64 day],Blk b6 22 [.slice none 0 0],Blk b7 48 [.int .i64 0],Blk b9 115 [.map (some bm)]]) QT ?_
      have hgr : ∀ p ∈ recL l known,FGd h p:=fun p hp => hg p (recL_sub l known p hp).1
      refine GO_rangeFuncR (R:=FR) (xs:=recL l known) (gf:=105) (lb:=[.pointer (some ⟨b1,0,none⟩),.pointer (some ⟨b2,0,none⟩)]) rfl rfl has105 (recSeq h4 A n c l (hx.le hl4) known b1 b2 hb1 hb2) (by rintro x u h2 rfl;rfl) rfl
        (fun pre Es h2 => Es = [MapA dkV Value.bool bm (vmap pre),Blk b3 47 [.slice A n c],Blk b4 3 [.int .i64 day],Blk b6 22 [.slice none 0 0],Blk b7 48 [.int .i64 0],Blk b9 115 [.map (some bm)]]) (fun _ _ _ _ => False)
        (fun pre Es h2 h3 hl e => e) (fun _ _ _ _ _ _ h => h.elim) (by rw [vmap_0]) ?_ ?_ (fun _ _ _ _ _ _ _ _ h => h.elim)
      · rintro lid r0 w1 X1 pre x post u Es1 h1 hxe rfl rfl hle hst
        have hgx:=hgr x (by rw [hxe];simp)
        have hvl : x.2.void.length = 32:=hgx.1.void
        have hsn:=vmap_snoc pre x
        by_cases h8 : x.2.kind = 8
        · rw [if_pos h8,kD_eq hvl] at hsn
          repeat' (first|apply GO_seq|apply GO_inBlock|apply GO_block|apply GO_region|apply GOl_nil|(apply GO_begin;exact rfl;exact QK;exact hst)|(apply GOl_pv;(iterate 3 exact rfl))|(apply GOl_load;exact rfl;exact Ld_blk rfl QM rfl;exact rfl;exact rfl)|(apply GOl_to;(iterate 3 exact rfl);(first|(apply OpTo_store;(iterate 3 exact rfl);exact QR;(iterate 3 exact rfl);skip)|(apply OpTo_alloc;exact rfl;intro b;skip)|(apply OpTo_mapUpdate (ek:=dkV) (ev:=Value.bool) (b:=bm) (m:=vmap pre) (key:=⟨x.2.void,hvl⟩) (u:=true) KD;(iterate 6 exact rfl);rw [← hsn];exact QR;skip)))|(apply GO_cond;exact rfl;all_goals (intro hc;try simp only [hcS,reduceCtorEq] at hc;try (exfalso;omega))))
          all_goals exact GO_take (Es':=[LoopA lid { r0 with state:=.busy },MapA dkV Value.bool bm (vmap (pre ++ [x])),Blk b3 47 [.slice A n c],Blk b4 3 [.int .i64 day],Blk b6 22 [.slice none 0 0],Blk b7 48 [.int .i64 0],Blk b9 115 [.map (some bm)]]) QT (GO_rEnd (r0:=r0) rfl .here rfl)
        · rw [if_neg h8] at hsn
          repeat' (first|apply GO_seq|apply GO_skip|apply GO_inBlock|apply GO_block|apply GO_region|apply GOl_nil|(apply GO_begin;exact rfl;exact QK;exact hst)|(apply GOl_pv;(iterate 3 exact rfl))|(apply GOl_load;exact rfl;exact Ld_blk rfl QM rfl;exact rfl;exact rfl)|(apply GOl_to;(iterate 3 exact rfl);(first|(apply OpTo_store;(iterate 3 exact rfl);exact QR;(iterate 3 exact rfl);skip)|(apply OpTo_alloc;exact rfl;intro b;skip)))|(apply GO_cond;exact rfl;all_goals (intro hc;try simp only [hcS,reduceCtorEq] at hc;try (exfalso;omega))))
          all_goals exact GO_take (Es':=[LoopA lid { r0 with state:=.busy },MapA dkV Value.bool bm (vmap pre),Blk b3 47 [.slice A n c],Blk b4 3 [.int .i64 day],Blk b6 22 [.slice none 0 0],Blk b7 48 [.int .i64 0],Blk b9 115 [.map (some bm)]]) QT (GO_rEnd (r0:=r0) rfl .here (by rw [hsn]))
      · rintro D h1b Es1 hle rfl
        obtain ⟨vm,hvm⟩ : ∃ vm,vm = vmap (recL l known):=⟨_,rfl⟩
        have hvn : vm.length ≤ 1000000:=by rw [hvm];have:=vmap_len (recL l known);omega
        have hvs : ∀ f : Fct,lookA (kD (idF f)) vm = if VoidBy idF (fcs l) known f then some true else none:=fun f => by
          rw [hvm,vmap_spec _ _ rfl]
          congr 1
          exact propext (in_vmap fun p hp => (hgr p hp).1.void)
        have hvz : vm.length = 0 → ∀ f : Fct,¬ VoidBy idF (fcs l) known f:=fun hz f hv => by
          have:=hvs f
          rw [if_pos hv,List.length_eq_zero_iff.1 hz] at this
          exact absurd this (by simp [lookA])
        rw [← hvm]
        clear hvm
        repeat' (first|apply GO_seq|apply GO_inBlock|apply GO_block|apply GO_region|apply GOl_nil|(apply GOl_pv;(iterate 3 exact rfl))|(apply GOl_load;exact rfl;exact Ld_blk rfl QM rfl;exact rfl;exact rfl)|(apply GOl_to;(iterate 3 exact rfl);(first|(apply OpTo_res;exact rfl;exact has79;exact recorded_c _ A n c known;rintro v6 h6 hle6 ⟨b5,b8,rfl,hb5,hb8⟩;skip))))
        have hl6 : Le h h6:=(by first|exact Le.refl _|assumption|(repeat (first|assumption|(apply Le.trans;assumption))))
        refine GO_nilS 73 82 ?_
        refine GO_take (Es':=[OwnS 73 82 (.slice none 0 0) 0 ((([] : List (Fsh × Fct))).flatMap encF82),Blk b6 22 [.slice none 0 0],Blk b4 3 [.int .i64 day],Blk b7 48 [.int .i64 0],Blk b9 115 [.map (some bm)],MapA dkV Value.bool bm vm,DefA D]) QT ?_
        refine GO_rangeFuncR (R:=FR) (xs:=recL l known) (gf:=105) (lb:=[.pointer (some ⟨b5,0,none⟩),.pointer (some ⟨b8,0,none⟩)]) rfl rfl has105 (recSeq h6 A n c l (hx.le hl6) known b5 b8 hb5 hb8) (by rintro x u h2 rfl;rfl) rfl
          (fun pre Es h2 => ∃ (A9 : Option Addr) (c9 : Nat),Es = [OwnS 73 82 (.slice A9 (viewP l day known pre).length c9) (viewP l day known pre).length ((viewP l day known pre).flatMap encF82),Blk b6 22 [.slice A9 (viewP l day known pre).length c9],Blk b4 3 [.int .i64 day],Blk b7 48 [.int .i64 0],Blk b9 115 [.map (some bm)],MapA dkV Value.bool bm vm,DefA D]) (fun _ _ _ _ => False)
          (fun pre Es h2 h3 hl e => e) (fun _ _ _ _ _ _ h => h.elim) ⟨none,0,by rw [viewP_0];rfl⟩ ?_ ?_ (fun _ _ _ _ _ _ _ _ h => h.elim)
        · rintro lid r0 w1 X1 pre x post u Es1 h7 hxe rfl ⟨A9,c9,rfl⟩ hle7 hst
          have hxm : x ∈ recL l known:=by rw [hxe];simp
          have hgx:=hgr x hxm
          have hkx:=(recL_sub l known x hxm).2
          have hpl : (viewP l day known pre).length + 1 ≤ 1000000:=by
            have q1:=viewP_len l day known pre
            have q2 : (recL l known).length = pre.length + (post.length + 1):=by rw [hxe,List.length_append];rfl
            omega
          have hid : ∀ h',Le h h' → Res Tryz.prog 38 #[factV x.1 x.2] h' fun u _ => u = .tuple #[digV (idF x.2),.int .i64 0]:=fun h' hl => id2_c h' (hG.le hl) x.1 x.2 (hgx.le hl).1 hgx.2.1 hgx.2.2
          have hsn:=viewP_snoc l day known pre x
          have hon:=viewP_one l day known x
          have hlx:=hvs x.2
          rw [kD_eq (idF_len x.2)] at hlx
          by_cases hV : InF idF (fcs l) day known x.2
          · rw [if_pos hV] at hon
            rw [hon] at hsn
            obtain ⟨-,hV1,hV2,hV3⟩:=hV
            rw [if_neg hV3] at hlx
            clear hvs hvz
            generalize viewP l day known pre = out at *
            repeat' (first|apply GO_seq|apply GO_skip|apply GO_inBlock|apply GO_block|apply GO_region|apply GOl_nil|(apply GO_begin;exact rfl;exact QK;exact hst)|(apply GOl_pv;(iterate 3 exact rfl))|(apply GOl_load;exact rfl;exact Ld_blk rfl QM rfl;exact rfl;exact rfl)|(apply GOl_ov;exact rfl;exact rfl;(first|(apply OV_lenMap (ek:=dkV) (ev:=Value.bool) (b:=bm) (m:=vm);(iterate 3 exact rfl))|(apply OV_lookup (ek:=dkV) (ev:=Value.bool) (key:=⟨idF x.2,idF_len x.2⟩) (m:=vm) (r:=none) KD;(iterate 5 exact rfl);exact hlx));exact QA)|(apply GOl_to;(iterate 3 exact rfl);(first|(apply OpTo_store;(iterate 3 exact rfl);exact QR;(iterate 3 exact rfl);skip)|(apply OpTo_alloc;exact rfl;intro b;skip)|(apply OpTo_res;exact rfl;exact has38;exact hid _ (by first|exact Le.refl _|assumption|(repeat (first|assumption|(apply Le.trans;assumption))));rintro vi hi1 hle2 rfl;skip)|(apply OpTo_buildSliceS (enc:=encF82) (n:=1) [x];(iterate 3 exact rfl);exact List.cons_ne_nil _ _;(iterate 4 exact rfl);exact encF82_len;exact rfl;exact rfl;intro b5 h5 hle5 hs5;skip)|(apply OpTo_appendS (enc:=encF82) (xs:=out);(iterate 7 exact rfl);exact hs5;exact encF82_len;exact encF82_one;intro v1;exact QR;omega;exact rfl;intro A3 c3;skip)))|(apply GO_cond;exact rfl;all_goals (intro hc;try simp only [hcS,reduceCtorEq] at hc;try (exfalso;omega)))|(apply GOl_split;exact rfl;exact rfl;all_goals (intro hc;try simp only [hcS,reduceCtorEq] at hc;try (exfalso;omega))))
            all_goals first
              | (exfalso;omega)
              | (refine GO_take (Es':=[LoopA lid { r0 with state:=.busy },OwnS 73 82 (.slice A3 (out.length + 1) c3) (out.length + 1) ((out ++ [x]).flatMap encF82),Blk b6 22 [.slice A3 (out.length + 1) c3],Blk b4 3 [.int .i64 day],Blk b7 48 [.int .i64 0],Blk b9 115 [.map (some bm)],MapA dkV Value.bool bm vm,DefA D]) QT (GO_rEnd (r0:=r0) rfl .here ⟨A3,c3,?_⟩)
                 rw [hsn,List.length_append];rfl)
          · rw [if_neg hV] at hon
            rw [hon,List.append_nil] at hsn
            by_cases hV1 : x.2.kind = 8 ∨ day < x.2.day
            · clear hvs hvz hlx
              repeat' (first|apply GO_seq|apply GO_block|apply GO_region|apply GOl_nil|(apply GO_exit;exact rfl)|(apply GO_begin;exact rfl;exact QK;exact hst)|(apply GOl_unwanted;exact rfl;exact rfl)|(apply GOl_pv;(iterate 3 exact rfl))|(apply GOl_load;exact rfl;exact Ld_blk rfl QM rfl;exact rfl;exact rfl)|(apply GOl_to;(iterate 3 exact rfl);(first|(apply OpTo_store;(iterate 3 exact rfl);exact QR;(iterate 3 exact rfl);skip)|(apply OpTo_alloc;exact rfl;intro b;skip)))|(apply GO_cond;exact rfl;all_goals (intro hc;try simp only [hcS,reduceCtorEq] at hc;try (exfalso;omega)))|(apply GOl_split;exact rfl;exact rfl;all_goals (intro hc;try simp only [hcS,reduceCtorEq] at hc;try (exfalso;omega))))
              all_goals first
                | (exfalso;omega)
                | (refine GO_take (Es':=[LoopA lid { r0 with state:=.busy },OwnS 73 82 (.slice A9 (viewP l day known pre).length c9) (viewP l day known pre).length ((viewP l day known pre).flatMap encF82),Blk b6 22 [.slice A9 (viewP l day known pre).length c9],Blk b4 3 [.int .i64 day],Blk b7 48 [.int .i64 0],Blk b9 115 [.map (some bm)],MapA dkV Value.bool bm vm,DefA D]) QT (GO_rEnd (r0:=r0) rfl .here ⟨A9,c9,?_⟩)
                   rw [hsn])
            · have hV3 : VoidBy idF (fcs l) known x.2:=by
                by_cases hq : VoidBy idF (fcs l) known x.2
                · exact hq
                · exact absurd ⟨hkx,fun q => hV1 (.inl q),by omega,hq⟩ hV
              rw [if_pos hV3] at hlx
              have hvp : vm.length ≠ 0:=fun q => hvz q _ hV3
              clear hvs hvz
              repeat' (first|apply GO_seq|apply GO_skip|apply GO_block|apply GO_region|apply GOl_nil|(apply GO_exit;exact rfl)|(apply GO_begin;exact rfl;exact QK;exact hst)|(apply GOl_pv;(iterate 3 exact rfl))|(apply GOl_load;exact rfl;exact Ld_blk rfl QM rfl;exact rfl;exact rfl)|(apply GOl_ov;exact rfl;exact rfl;(first|(apply OV_lenMap (ek:=dkV) (ev:=Value.bool) (b:=bm) (m:=vm);(iterate 3 exact rfl))|(apply OV_lookup (ek:=dkV) (ev:=Value.bool) (key:=⟨idF x.2,idF_len x.2⟩) (m:=vm) (r:=some true) KD;(iterate 5 exact rfl);exact hlx));exact QA)|(apply GOl_to;(iterate 3 exact rfl);(first|(apply OpTo_store;(iterate 3 exact rfl);exact QR;(iterate 3 exact rfl);skip)|(apply OpTo_alloc;exact rfl;intro b;skip)|(apply OpTo_res;exact rfl;exact has38;exact hid _ (by first|exact Le.refl _|assumption|(repeat (first|assumption|(apply Le.trans;assumption))));rintro vi hi1 hle2 rfl;skip)))|(apply GO_cond;exact rfl;all_goals (intro hc;try simp only [hcS,reduceCtorEq] at hc;try (exfalso;omega)))|(apply GOl_split;exact rfl;exact rfl;all_goals (intro hc;try simp only [hcS,reduceCtorEq] at hc;try (exfalso;omega))))
              all_goals first
                | (exfalso;omega)
                | (refine GO_take (Es':=[LoopA lid { r0 with state:=.busy },OwnS 73 82 (.slice A9 (viewP l day known pre).length c9) (viewP l day known pre).length ((viewP l day known pre).flatMap encF82),Blk b6 22 [.slice A9 (viewP l day known pre).length c9],Blk b4 3 [.int .i64 day],Blk b7 48 [.int .i64 0],Blk b9 115 [.map (some bm)],MapA dkV Value.bool bm vm,DefA D]) QT (GO_rEnd (r0:=r0) rfl .here ⟨A9,c9,?_⟩)
                   rw [hsn])
        · rintro D2 h8 Es1 hle8 ⟨A9,c9,rfl⟩
          have hvn2 : (viewP l day known (recL l known)).length ≤ 1000000:=by
            have q1:=viewP_len l day known (recL l known)
            omega
          have hvf:=viewP_fcs l day known
          have hvg : ∀ p ∈ viewP l day known (recL l known),FGd h p:=fun p hp => hgr p (viewP_sub l day known _ p hp)
          rw [← hvf]
          generalize viewP l day known (recL l known) = out at *
          refine GO_relC (enc:=encF82) (e:=73) (sz:=82) (n:=out.length) (xs:=out) encF82_len rfl QK ?_
          intro A8 c8 h9 hle9 e9 hnc9 hs9
          cases e9
          have hl9 : Le h h9:=(by first|exact Le.refl _|assumption|(repeat (first|assumption|(apply Le.trans;assumption))))
          repeat' (first|apply GO_seq|apply GO_inBlock|apply GO_region|apply GOl_nil|(apply GOl_load;exact rfl;exact Ld_blk rfl QM rfl;exact rfl;exact rfl)|(apply GOl_to;(iterate 3 exact rfl);(first|(apply OpTo_store;(iterate 3 exact rfl);exact QR;(iterate 3 exact rfl);skip))))
          all_goals exact GO_rt (Rt_mark rfl QK (Rt_mark rfl QK (Rt_S (rs:=[.cell 6 22,.cell 7 48]) (vs:=[.slice A9 out.length c9,.int .i64 0]) rfl rfl ⟨⟨_,rfl,Ld_blk rfl QM rfl⟩,⟨_,rfl,Ld_blk rfl QM rfl⟩,trivial⟩ (List.nil_sublist _) ⟨rfl,A9,_,c9,out,rfl,hnc9,⟨hs9,fun p hp => ⟨((hvg p hp).le hl9).1,(hvg p hp).2.1⟩,hvn2⟩,rfl⟩)))
    · have hkn : viewE (fcs l) day known = ([],1):=by unfold viewE;rw [if_neg (by rw [← he];omega),if_pos (by omega)]
      rw [hkn]
      have hdv:=fun h' => isDay_c h' day
      have hdk:=fun h' => isDay_c h' known
      repeat' (first|apply GO_seq|apply GO_skip|apply GO_region|apply GOl_nil|(apply GOl_unwanted;exact rfl;exact rfl)|(apply GOl_pv;(iterate 3 exact rfl))|(apply GOl_load;exact rfl;exact Ld_blk rfl QM rfl;exact rfl;exact rfl)|(apply GOl_to;(iterate 3 exact rfl);(first|(apply OpTo_store;(iterate 3 exact rfl);exact QR;(iterate 3 exact rfl);skip)|(apply OpTo_box;exact rfl;intro b;skip)|(apply OpTo_alloc;exact rfl;intro b;skip)|(apply OpTo_res;exact rfl;exact has35;exact hck _ (by first|exact Le.refl _|assumption|(repeat (first|assumption|(apply Le.trans;assumption))));rintro v1 h3 hle1 rfl;skip)|(apply OpTo_val;exact rfl;exact has78;exact hdv _;skip)|(apply OpTo_val;exact rfl;exact has78;exact hdk _;skip)))|(apply GO_cond;exact rfl;all_goals (intro hc;try simp only [hcS,reduceCtorEq] at hc;try (exfalso;omega)))|(apply GOl_split;exact rfl;exact rfl;all_goals (intro hc;try simp only [hcS,reduceCtorEq] at hc;try (exfalso;omega))))
      all_goals first
        | (exfalso;omega)
        | (refine GO_retR (rs:=[.cell 6 22,.cell 7 48]) (vs:=[.slice none 0 0,.int .i64 1]) rfl rfl ⟨⟨_,rfl,Ld_blk rfl QM rfl⟩,⟨_,rfl,Ld_blk rfl QM rfl⟩,trivial⟩ ⟨none,0,0,[],rfl,by omega,⟨SlOf.nil,by simp,by omega⟩,rfl⟩)
  · have hkn : viewE (fcs l) day known = ([],e):=by unfold viewE;rw [if_pos (by rw [← he];exact h0),he]
    rw [hkn]
    repeat' (first|apply GO_seq|apply GO_region|apply GOl_nil|(apply GOl_pv;(iterate 3 exact rfl))|(apply GOl_load;exact rfl;exact Ld_blk rfl QM rfl;exact rfl;exact rfl)|(apply GOl_to;(iterate 3 exact rfl);(first|(apply OpTo_store;(iterate 3 exact rfl);exact QR;(iterate 3 exact rfl);skip)|(apply OpTo_box;exact rfl;intro b;skip)|(apply OpTo_alloc;exact rfl;intro b;skip)|(apply OpTo_res;exact rfl;exact has35;exact hck _ (by first|exact Le.refl _|assumption|(repeat (first|assumption|(apply Le.trans;assumption))));rintro v1 h3 hle1 rfl;skip)))|(apply GO_cond;exact rfl;all_goals (intro hc;try simp only [hcS,reduceCtorEq] at hc;try (exfalso;omega))))
    all_goals first
      | (exfalso;omega)
      | (refine GO_retR (rs:=[.cell 6 22,.cell 7 48]) (vs:=[.slice none 0 0,.int .i64 e]) rfl rfl ⟨⟨_,rfl,Ld_blk rfl QM rfl⟩,⟨_,rfl,Ld_blk rfl QM rfl⟩,trivial⟩ ⟨none,0,0,[],rfl,by omega,⟨SlOf.nil,by simp,by omega⟩,rfl⟩)
end Go.Hw
set_option linter.unusedVariables false
set_option linter.unusedSimpArgs false
set_option maxRecDepth 100000
set_option maxHeartbeats 8000000
namespace Go.Hw
open Go
attribute [local irreducible] GO GOl GDp Val Fn Res CellsAt ValE Blk OwnS MapA OwnPf Has Yl idF
open Go.Proofs (Tryz.prog)
section
variable {C : Ctx} {l : Sl} {h : Ro} {ty t ty' : TypeId} {pos : String} {aft : Array Edge} {gd : Option (Nat × Bool)} {dst : Option Tmp} {x y : Operand} {T : Ty}
theorem OV_addW {p q : Int} (hT : tyOf t C.ts = some T) (hx : evl l x = some (.int .i64 p)) (hy : evl l y = some (.int .i64 q)) : OV C l [] h ⟨dst,.binOp .add t x y ty',ty,pos,aft,gd⟩ (.int .i64 (IntKind.i64.wrap (p + q))) :=
  OV_bin hT hx hy (by simp [pvBin])
end
theorem few8_c (h : Ro) (A : Option Addr) (n c : Nat) (l : List (Fsh × Fct)) (hx : SlOf encF82 82 h A n l) (hn : n ≤ 9223372036854775807) (most : Int) : Res Tryz.prog 31 #[.slice A n c,.int .i64 most] h (fun u _ => ∃ b : Bool,u = .bool b ∧ (b = true → (n : Int) ≤ most)):=by
  refine Res_intro (args:=[_,_]) ts_ok Go.Proofs.Tryz.func31 rfl rfl fun w0 X0 => ?_
  have hlen:=hx.len
  repeat' (first|apply GO_seq|apply GO_block|apply GO_region|apply GOl_nil|(apply GOl_pv;(iterate 3 exact rfl)))
  refine GO_loopT (X:=Nat) (fun k => k ≤ n) (fun k => n - k) (fun k => [(5,.int .i64 k),(0,.slice A n c),(1,.int .i64 most)]) (fun _ => []) (fun _ => h) 0 (by omega) QS QT rfl ?_
  rintro k hk ih
  by_cases hkn : k < n
  · have a1:=hx.addrD hkn
    have c1:=hx.cellsD p0 hkn
    generalize l.getD k p0 = p at *
    repeat' (first|apply GO_seq|apply GO_skip|apply GO_inBlock|apply GO_block|apply GO_region|apply GOl_nil|(apply GOl_ov;exact rfl;exact rfl;(first|(apply OV_add (q:=1);(iterate 3 exact rfl);omega));exact QA)|(apply GP_ov;exact rfl;kernel_rfl;exact rfl;exact rfl;(first|(apply OV_addW;(iterate 3 exact rfl)));exact QA)|(apply GOl_pv;(iterate 3 exact rfl))|(apply GOl_ov;exact rfl;exact rfl;(first|(apply OV_idxS (j:=k);(iterate 5 exact rfl);exact a1;(with_reducible exact rfl);omega)|(apply OV_load;exact rfl;first|exact Lv_ro rfl (by assumption) rfl|exact Lv_roF rfl (by assumption) rfl|exact Lv_roF2 rfl (by assumption) rfl|exact Lv_roF3 rfl (by assumption) rfl));exact QA)|(apply GOl_to;(iterate 3 exact rfl);(first|(apply OpTo_store;(iterate 3 exact rfl);exact QR;(iterate 3 exact rfl);skip)|(apply OpTo_alloc;exact rfl;intro b;skip)))|(apply GO_drawp (n:=5) [0,1,2,3,4,5,6,7,8,9,10,11,12,13,14,15,16,17,18,19,20,21,22,23,24,25,26,27,28,29,30,31,32,33,34,35,36,37,38,39,40,41] [(0,0),(1,0),(2,0),(3,0),(4,0),(5,0),(6,0),(7,0),(8,0),(9,0),(10,0),(11,0),(12,0),(13,0),(14,0),(15,0),(16,0),(17,0),(18,0),(19,0),(20,0),(21,0),(22,0),(23,0),(24,0),(25,0),(26,0),(27,0),(28,0),(29,0),(30,0),(31,0),(32,0),(33,0),(34,0),(35,0),(36,0),(37,0),(38,0),(39,0),(40,0),(41,0)];kernel_rfl)|(apply GP_un;exact rfl;kernel_rfl;exact rfl;exact rfl)|(apply GP_pv;exact rfl;kernel_rfl;(iterate 3 exact rfl))|(apply GP_loadB;exact rfl;kernel_rfl;(iterate 3 exact rfl);exact QM;exact rfl;exact rfl)|(apply GP_ov;exact rfl;kernel_rfl;exact rfl;exact rfl;(first|(apply OV_idxS (j:=k);(iterate 5 exact rfl);exact a1;(with_reducible exact rfl);omega)|(apply OV_load;exact rfl;first|exact Lv_ro rfl (by assumption) rfl|exact Lv_roF rfl (by assumption) rfl|exact Lv_roF2 rfl (by assumption) rfl|exact Lv_roF3 rfl (by assumption) rfl));exact QA)|(apply GP_done;kernel_rfl;exact rfl)|(apply GP_split;(iterate 5 exact rfl);all_goals (intro hc;try simp only [hcS,reduceCtorEq] at hc;try (exfalso;omega)))|(apply GO_cond;exact rfl;all_goals (intro hc;try simp only [hcS,reduceCtorEq] at hc;try (exfalso;omega))))
    all_goals first
      | (have h3:=ih (k + 1) (by omega) (by omega)
         refine GO_fit QS QT (h3))
      | (exact GO_retR1 rfl rfl rfl ⟨false,rfl,fun e => by cases e⟩)
  · repeat' (first|apply GO_seq|apply GO_region|apply GOl_nil|(apply GO_exit;exact rfl)|(apply GOl_pv;(iterate 3 exact rfl))|(apply GO_cond;exact rfl;all_goals (intro hc;try simp only [hcS,reduceCtorEq] at hc;try (exfalso;omega))))
    all_goals exact GO_retR1 rfl rfl rfl ⟨_,rfl,fun e => by rw [leI_t] at e;exact e⟩
theorem sameL_c (h : Ro) (A : Option Addr) (n c : Nat) (l : List (Fsh × Fct)) (hx : FactsAt h A n l) (B : Option Addr) (m d : Nat) (r : List (Fsh × Fct)) (hy : FactsAt h B m r) :
    Val Tryz.prog 46 #[.slice A n c,.slice B m d] h (.bool (decide (fcs l = fcs r))):=by
  refine Val_intro (args:=[_,_]) ts_ok Go.Proofs.Tryz.func46 rfl rfl fun w0 X0 => ?_
  have hlen:=hx.row.len
  have hlen2:=hy.row.len
  have hn:=hx.small
  by_cases hnm : n = m
  · subst hnm
    repeat' (first|apply GO_seq|apply GO_skip|apply GO_block|apply GO_region|apply GOl_nil|(apply GOl_pv;(iterate 3 exact rfl))|(apply GO_cond;exact rfl;all_goals (intro hc;try simp only [hcS,reduceCtorEq] at hc;try (exfalso;omega))))
    · refine GO_loopT (X:=Nat) (fun k => k ≤ n ∧ fcs (l.take k) = fcs (r.take k)) (fun k => n - k) (fun k => [(5,.int .i64 k),(0,.slice A n c),(1,.slice B n d)]) (fun _ => []) (fun _ => h) 0 ⟨by omega,rfl⟩ QS QT rfl ?_
      rintro k ⟨hk,hI⟩ ih
      by_cases hkn : k < n
      · have a1:=hx.row.addrD hkn
        have c1:=hx.row.cellsD p0 hkn
        have a2:=hy.row.addrD hkn
        have c2:=hy.row.cellsD p0 hkn
        have ht1:=take7 p0 hlen hkn
        have ht2:=take7 p0 hlen2 hkn
        have f1:=hx.fat _ (mem7 p0 (show k < l.length by omega))
        have f2:=hy.fat _ (mem7 p0 (show k < r.length by omega))
        have hne : (l.getD k p0).2 ≠ (r.getD k p0).2 → fcs l ≠ fcs r:=fun h1 h2 => h1 (by
          have g1:=map_getD (·.2) l p0 (show k < l.length by omega)
          have g2:=map_getD (·.2) r p0 (show k < r.length by omega)
          unfold fcs at h2
          rw [← g1,← g2]
          simp only [h2])
        generalize l.getD k p0 = u at *
        generalize r.getD k p0 = v at *
        have hs:=sameR_c h u.1 u.2 f1.1 f1.2 v.1 v.2 f2.1 f2.2
        by_cases he : u.2 = v.2
        · rw [decide_eq_true he] at hs
          repeat' (first|apply GO_seq|apply GO_skip|apply GO_inBlock|apply GO_block|apply GO_region|apply GOl_nil|(apply GOl_add;(iterate 3 exact rfl);omega;exact rfl;exact rfl)|(apply GOl_pv;(iterate 3 exact rfl))|(apply GO_drawp (n:=6) [0,1,2,3,4,5,6,7,8,9] [(0,0),(1,0),(2,0),(3,0),(4,0),(5,0),(6,0),(7,0),(8,1),(9,0)];kernel_rfl)|(apply GP_pv;exact rfl;kernel_rfl;(iterate 3 exact rfl))|(apply GP_ov;exact rfl;kernel_rfl;exact rfl;exact rfl;(first|(apply OV_idxS (j:=k);(iterate 5 exact rfl);exact a1;(with_reducible exact rfl);omega)|(apply OV_idxS (j:=k);(iterate 5 exact rfl);exact a2;(with_reducible exact rfl);omega)|(apply OV_load;exact rfl;exact Lv_ro rfl c1 rfl)|(apply OV_load;exact rfl;exact Lv_ro rfl c2 rfl));exact QA)|(apply GP_real;exact rfl;kernel_rfl;(iterate 3 exact rfl);(first|(apply OpTo_val;exact rfl;exact has88;exact hs;refine ⟨Le.refl _,QN,?_⟩)))|(apply GP_done;kernel_rfl;exact rfl)|(apply GO_cond;exact rfl;all_goals (intro hc;try simp only [hcS,reduceCtorEq] at hc;try (exfalso;omega))))
          all_goals
            have h3:=ih (k + 1) ⟨by omega,by
              rw [ht1,ht2];unfold fcs at hI ⊢
              rw [List.map_append,List.map_append,hI];show _ ++ [u.2] = _ ++ [v.2];rw [he]⟩ (by omega)
            refine GO_fit QS QT (h3)
        · rw [decide_eq_false he] at hs
          repeat' (first|apply GO_seq|apply GO_skip|apply GO_block|apply GO_region|apply GOl_nil|(apply GOl_pv;(iterate 3 exact rfl))|(apply GO_drawp (n:=6) [0,1,2,3,4,5,6,7,8,9] [(0,0),(1,0),(2,0),(3,0),(4,0),(5,0),(6,0),(7,0),(8,1),(9,0)];kernel_rfl)|(apply GP_pv;exact rfl;kernel_rfl;(iterate 3 exact rfl))|(apply GP_ov;exact rfl;kernel_rfl;exact rfl;exact rfl;(first|(apply OV_idxS (j:=k);(iterate 5 exact rfl);exact a1;(with_reducible exact rfl);omega)|(apply OV_idxS (j:=k);(iterate 5 exact rfl);exact a2;(with_reducible exact rfl);omega)|(apply OV_load;exact rfl;exact Lv_ro rfl c1 rfl)|(apply OV_load;exact rfl;exact Lv_ro rfl c2 rfl));exact QA)|(apply GP_real;exact rfl;kernel_rfl;(iterate 3 exact rfl);(first|(apply OpTo_val;exact rfl;exact has88;exact hs;refine ⟨Le.refl _,QN,?_⟩)))|(apply GP_done;kernel_rfl;exact rfl)|(apply GO_cond;exact rfl;all_goals (intro hc;try simp only [hcS,reduceCtorEq] at hc;try (exfalso;omega))))
          all_goals
            (first|(apply GO_retV1;(iterate 3 exact rfl)))
            rw [decide_eq_false (hne he)]
      · repeat' (first|apply GO_seq|apply GO_region|apply GOl_nil|(apply GO_exit;exact rfl)|(apply GOl_pv;(iterate 3 exact rfl))|(apply GO_cond;exact rfl;all_goals (intro hc;try simp only [hcS,reduceCtorEq] at hc;try (exfalso;omega)))|(apply GO_retV1;(iterate 3 exact rfl)))
        rw [List.take_of_length_le (by omega),List.take_of_length_le (by omega)] at hI
        rw [decide_eq_true hI]
  · repeat' (first|apply GO_seq|apply GO_region|apply GOl_nil|(apply GOl_pv;(iterate 3 exact rfl))|(apply GO_cond;exact rfl;all_goals (intro hc;try simp only [hcS,reduceCtorEq] at hc;try (exfalso;omega)))|(apply GO_retV1;(iterate 3 exact rfl)))
    rw [decide_eq_false];intro hh
    have:=congrArg List.length hh
    unfold fcs at this
    rw [List.length_map,List.length_map] at this
    omega
theorem same8_c (h : Ro) (A : Option Addr) (n c : Nat) (l : List (Fsh × Fct)) (hx : FactsAt h A n l) (B : Option Addr) (m d : Nat) (r : List (Fsh × Fct)) (hy : FactsAt h B m r) :
    Val Tryz.prog 34 #[ledV A n c,ledV B m d] h (.bool (decide (fcs l = fcs r))):=by
  refine Val_intro (args:=[_,_]) ts_ok Go.Proofs.Tryz.func34 rfl rfl fun w0 X0 => ?_
  repeat' (first|apply GO_seq|apply GO_region|apply GOl_nil|(apply GOl_pv;(iterate 3 exact rfl))|(apply GOl_load;exact rfl;exact Ld_blk rfl QM rfl;exact rfl;exact rfl)|(apply GOl_to;(iterate 3 exact rfl);(first|(apply OpTo_box;exact rfl;intro b;skip)|(apply OpTo_val;exact rfl;exact has46;exact sameL_c _ A n c l (hx.le (by first|exact Le.refl _|assumption|(repeat (first|assumption|(apply Le.trans;assumption))))) B m d r (hy.le (by first|exact Le.refl _|assumption|(repeat (first|assumption|(apply Le.trans;assumption)))));skip)))|(apply GO_retV1;(iterate 3 exact rfl)))
  all_goals rfl
theorem mv8_at (h : Ro) (d k p t : Int) : FAt h fsh0 (mv8 d k p t):=⟨⟨SlOf.nil,SlOf.nil,SlOf.nil,SlOf.nil⟩,SlOf.nil,SlOf.nil,rfl,Nat.le_refl _⟩
theorem mv8_sm (d k p t : Int) : FSm (mv8 d k p t):=⟨⟨Nat.zero_le _,Nat.zero_le _,Nat.zero_le _,Nat.zero_le _⟩,Nat.zero_le _,Nat.zero_le _,Nat.zero_le _⟩
theorem moved_c (h : Ro) (d k p t : Int) : Val Tryz.prog 67 #[.int .i64 d,.int .i64 k,.int .i64 p,.int .i64 t] h (factV fsh0 (mv8 d k p t)):=by
  refine Val_intro (args:=[_,_,_,_]) ts_ok Go.Proofs.Tryz.func67 rfl rfl fun w0 X0 => ?_
  repeat' (first|apply GO_seq|apply GO_region|apply GOl_nil|(apply GOl_pv;(iterate 3 exact rfl))|(apply GOl_to;(iterate 3 exact rfl);(first|(apply OpTo_store;(iterate 3 exact rfl);exact QR;(iterate 3 exact rfl);skip)|(apply OpTo_alloc;exact rfl;intro b;skip)))|(apply GO_retC1;(iterate 3 exact rfl);exact QM;exact rfl;exact rfl))
  all_goals rfl
end Go.Hw
set_option linter.unusedVariables false
set_option linter.unusedSimpArgs false
set_option maxRecDepth 100000
set_option maxHeartbeats 8000000
namespace Go.Hw
open Go
attribute [local irreducible] GO GOl GDp Val Fn Res CellsAt ValE Blk OwnS MapA OwnPf Has Yl idF
open Go.Proofs (Tryz.prog)
theorem FactsAt.len {h : Ro} {A : Option Addr} {n : Nat} {l : List (Fsh × Fct)} (a : FactsAt h A n l) : (fcs l).length = n:=by
  unfold fcs;rw [List.length_map];exact a.row.len
def exP : Fsh × Fct:=(fsh0,exF)
theorem exV_at (h : Ro) (i : List UInt8) (hi : i.length = 32) : FAt h fsh0 (exV i):=⟨⟨SlOf.nil,SlOf.nil,SlOf.nil,SlOf.nil⟩,SlOf.nil,SlOf.nil,hi,Nat.le_refl _⟩
theorem exV_sm (i : List UInt8) : FSm (exV i):=⟨⟨Nat.zero_le _,Nat.zero_le _,Nat.zero_le _,Nat.zero_le _⟩,Nat.zero_le _,Nat.zero_le _,Nat.zero_le _⟩
theorem ex2_facts {h : Ro} {A : Option Addr} (hs : SlOf encF82 82 h A 2 [exP,exP]) : FactsAt h A 2 [exP,exP]:=⟨hs,fun p hp => by
  simp only [List.mem_cons,List.not_mem_nil,or_false,or_self] at hp
  subst hp
  exact ⟨mv8_at h 10 20 1 2,mv8_sm 10 20 1 2⟩,by omega⟩
theorem ex2_fcs : fcs [exP,exP] = [exF,exF]:=rfl
theorem lim1 (L : List Fct) (h : L.length ≤ 65536) : lim L = (L,0):=by unfold lim;rw [if_neg (by omega)]
theorem sane8_c (h : Ro) (hG : PowG h) : Val Tryz.prog 30 #[] h (.bool true):=by
  refine Val_intro (args:=[]) ts_ok Go.Proofs.Tryz.func30 rfl rfl fun w0 X0 => ?_
  have nw : ∀ h',Le h h' → ∀ A,SlOf encF82 82 h' A 2 [exP,exP] → Res Tryz.prog 32 #[.slice A 2 2] h' (fun u h2 => ∃ A k c l,u = .tuple #[ledV A 1 c,.int .i64 0] ∧ k = 1 ∧ k ≤ c ∧ FactsAt h2 A k l ∧ fcs l = [exF]):=fun h' hl A hs => by
    refine (newLed_c h' (hG.le hl) A 2 2 _ (ex2_facts hs)).mono ?_
    rintro u h2 _ ⟨v,rfl,A9,k,c,l,rfl,hkc,hla,hf⟩
    have e : newL (fcs [exP,exP]) = ([exF],0):=by
      rw [ex2_fcs];unfold newL
      rw [if_pos,ex_canon,lim1 _ (by simp)]
      intro f hf
      simp only [List.mem_cons,List.not_mem_nil,or_false,or_self] at hf
      subst hf;exact exF_ok
    rw [e] at hf ⊢
    have hk:=hla.facts.len
    rw [hf] at hk
    subst hk
    exact ⟨A9,1,c,l,rfl,rfl,hkc,hla.facts,hf⟩
  have vw : ∀ h',Le h h' → ∀ A n c l,FactsAt h' A n l → ∀ day known : Int,∀ n',∀ e,(viewE (fcs l) day known).1.length = n' → (viewE (fcs l) day known).2 = e → Res Tryz.prog 37 #[ledV A n c,.int .i64 day,.int .i64 known] h' (fun u _ => ∃ A c,u = .tuple #[.slice A n' c,.int .i64 e]):=fun h' hl A n c l hx day known n' e e1 e2 => by
    refine (view_c h' (hG.le hl) A n c l hx day known).mono ?_
    rintro u h2 _ ⟨A9,k,c9,l9,rfl,hkc,hla,hf⟩
    have hk:=hla.len
    rw [hf,e1] at hk
    subst hk
    exact ⟨A9,c9,by rw [e2]⟩
  have ad1 : ∀ h',Le h h' → ∀ A c l,FactsAt h' A 1 l → 1 ≤ c → fcs l = [exF] → Res Tryz.prog 41 #[ledV A 1 c,factV fsh0 exF] h' (fun u h2 => ∃ A c,u = .tuple #[ledV A 1 c,.bool false,.int .i64 0]):=fun h' hl A c l hx hc hf => by
    refine (addLed_c h' (hG.le hl) A 1 c l hx hc fsh0 exF (mv8_at h' 10 20 1 2) (mv8_sm 10 20 1 2)).mono ?_
    have e : addL (fcs l) exF = ([exF],false,0):=by
      rw [hf];unfold addL
      rw [if_neg (by rw [ex_ledE];omega),if_neg (fun q => q exF_ok),if_pos (by simp)]
    rw [e]
    rintro u h2 _ ⟨v,rfl,A9,k,c9,l9,rfl,hkc,hla,hf9⟩
    have hk:=hla.facts.len
    rw [hf9] at hk
    subst hk
    exact ⟨A9,c9,rfl⟩
  have hid : ∀ h',Le h h' → Res Tryz.prog 38 #[factV fsh0 exF] h' fun u _ => u = .tuple #[digV (idF exF),.int .i64 0]:=fun h' hl => id2_c h' (hG.le hl) fsh0 exF (mv8_at h' 10 20 1 2) (mv8_sm 10 20 1 2) exF_ok
  have hi:=idF_len exF
  generalize hI : idF exF = i at hid hi
  have ad2 : ∀ h',Le h h' → ∀ A c l,FactsAt h' A 1 l → 1 ≤ c → fcs l = [exF] → Res Tryz.prog 41 #[ledV A 1 c,factV fsh0 (exV i)] h' (fun u h2 => ∃ A c l,u = .tuple #[ledV A 2 c,.bool true,.int .i64 0] ∧ FactsAt h2 A 2 l ∧ fcs l = unionL [exF] [exV i]):=fun h' hl A c l hx hc hf => by
    refine (addLed_c h' (hG.le hl) A 1 c l hx hc fsh0 (exV i) (exV_at h' i hi) (exV_sm i)).mono ?_
    have e : addL (fcs l) (exV i) = (unionL [exF] [exV i],true,0):=by
      rw [hf];unfold addL
      rw [if_neg (by rw [ex_ledE];omega),if_neg (fun q => q (exV_ok i)),if_neg (by rw [List.mem_singleton];exact ex_ne i),lim1 _ (by rw [ex_two hi];omega)]
      rfl
    rw [e]
    rintro u h2 _ ⟨v,rfl,A9,k,c9,l9,rfl,hkc,hla,hf9⟩
    have hk:=hla.facts.len
    rw [hf9] at hk
    rw [ex_two hi] at hk
    subst hk
    exact ⟨A9,c9,l9,rfl,hla.facts,hf9⟩
  have ck : ∀ h',Le h h' → ∀ A,SlOf encF82 82 h' A 2 [exP,exP] → Res Tryz.prog 35 #[ledV A 2 2] h' (fun u _ => u = .int .i64 80):=fun h' hl A hs => by
    have:=checkL_c h' (hG.le hl) A 2 2 _ (ex2_facts hs)
    rw [ex2_fcs,ex_led2] at this
    exact this
  have v1 : viewE [exF] 10 20 = ([exF],0):=by
    unfold viewE;rw [if_neg (by rw [ex_ledE];omega),if_neg (by omega),ex_view,if_pos (by omega)]
  have v2 : viewE [exF] 10 19 = ([],0):=by
    unfold viewE;rw [if_neg (by rw [ex_ledE];omega),if_neg (by omega),ex_view,if_neg (by omega)]
  have v3 : viewE (fcs []) (-1) 0 = ([],1):=by
    have : ledE [] = 0:=ledE_zero.2 ⟨by simp,by simp,List.Pairwise.nil⟩
    unfold viewE fcs;rw [List.map_nil,if_neg (by rw [this];omega),if_pos (by omega)]
  have v4 : viewE (unionL [exF] [exV i]) 10 30 = ([],0):=by
    have h32 : In32 [exV i]:=fun f hf => by rw [List.mem_singleton] at hf;subst hf;exact hi
    obtain ⟨q1,q2⟩:=unionL_spec (a:=[exF]) (b:=[exV i]) ex32 h32
    have : ledE (unionL [exF] [exV i]) = 0:=ledE_zero.2 ⟨by rw [ex_two hi];omega,fun f hf => ((q2 f).1 hf).2,q1⟩
    have hz:=ex_void (I:=idF) (by rw [hI];exact hi)
    rw [hI] at hz
    unfold viewE;rw [if_neg (by rw [this];omega),if_neg (by omega),hz]
  clear hI
  repeat' (first|apply GO_seq|apply GO_region|apply GOl_nil|(apply GOl_pv;(iterate 3 exact rfl))|(apply GOl_load;exact rfl;exact Ld_blk rfl QM rfl;exact rfl;exact rfl)|(apply GOl_to;(iterate 3 exact rfl);(first|(apply OpTo_store;(iterate 3 exact rfl);exact QR;(iterate 3 exact rfl);skip)|(apply OpTo_alloc;exact rfl;intro b;skip)|(apply OpTo_val;exact rfl;exact has67;exact moved_c _ 10 20 1 2;skip)|(apply OpTo_buildSliceS (enc:=encF82) (n:=2) [exP,exP];(iterate 3 exact rfl);exact List.cons_ne_nil _ _;(iterate 4 exact rfl);exact encF82_len;exact rfl;exact rfl;intro bz hz1 hlez hs1;skip)|(apply OpTo_res;exact rfl;exact has32;exact nw _ (by first|exact Le.refl _|assumption|(repeat (first|assumption|(apply Le.trans;assumption)))) _ (hs1.le (by first|exact Le.refl _|assumption|(repeat (first|assumption|(apply Le.trans;assumption)))));rintro w2 h2 hle2 ⟨A2,k2,c2,l2,rfl,rfl,hk2,hx2,hf2⟩;skip)|(apply OpTo_res;exact rfl;exact has37;(first|exact vw _ (by first|exact Le.refl _|assumption|(repeat (first|assumption|(apply Le.trans;assumption)))) none 0 0 [] ((LedAt.nil _).facts) (-1) 0 0 1 (by rw [v3];rfl) (by rw [v3])|exact vw _ (by first|exact Le.refl _|assumption|(repeat (first|assumption|(apply Le.trans;assumption)))) _ _ _ l2 (hx2.le (by first|exact Le.refl _|assumption|(repeat (first|assumption|(apply Le.trans;assumption))))) 10 20 1 0 (by rw [hf2,v1];rfl) (by rw [hf2,v1])|exact vw _ (by first|exact Le.refl _|assumption|(repeat (first|assumption|(apply Le.trans;assumption)))) _ _ _ l2 (hx2.le (by first|exact Le.refl _|assumption|(repeat (first|assumption|(apply Le.trans;assumption))))) 10 19 0 0 (by rw [hf2,v2];rfl) (by rw [hf2,v2])|exact vw _ (by first|exact Le.refl _|assumption|(repeat (first|assumption|(apply Le.trans;assumption)))) _ _ _ l3 (hx3.le (by first|exact Le.refl _|assumption|(repeat (first|assumption|(apply Le.trans;assumption))))) 10 30 0 0 (by rw [hf3,v4];rfl) (by rw [hf3,v4]));rintro w4 h4 hle4 ⟨A4,c4,rfl⟩;skip)|(apply OpTo_res;exact rfl;exact has41;exact ad1 _ (by first|exact Le.refl _|assumption|(repeat (first|assumption|(apply Le.trans;assumption)))) _ _ l2 (hx2.le (by first|exact Le.refl _|assumption|(repeat (first|assumption|(apply Le.trans;assumption))))) hk2 hf2;rintro w5 h5 hle5 ⟨A5,c5,rfl⟩;skip)|(apply OpTo_res;exact rfl;exact has41;exact ad2 _ (by first|exact Le.refl _|assumption|(repeat (first|assumption|(apply Le.trans;assumption)))) _ _ l2 (hx2.le (by first|exact Le.refl _|assumption|(repeat (first|assumption|(apply Le.trans;assumption))))) hk2 hf2;rintro w6 h6 hle6 ⟨A6,c6,l3,rfl,hx3,hf3⟩;skip)|(apply OpTo_res;exact rfl;exact has38;exact hid _ (by first|exact Le.refl _|assumption|(repeat (first|assumption|(apply Le.trans;assumption))));rintro w7 h7 hle7 rfl;skip)|(apply OpTo_res;exact rfl;exact has35;exact ck _ (by first|exact Le.refl _|assumption|(repeat (first|assumption|(apply Le.trans;assumption)))) _ (hs1.le (by first|exact Le.refl _|assumption|(repeat (first|assumption|(apply Le.trans;assumption)))));rintro w8 h8 hle8 rfl;skip)))|(apply GOl_split;exact rfl;exact rfl;all_goals (intro hc;try simp only [hcS,reduceCtorEq] at hc;try (exfalso;omega)))|(apply GO_retV1;(iterate 3 exact rfl)))
  all_goals simp [eqI_eq]
end Go.Hw

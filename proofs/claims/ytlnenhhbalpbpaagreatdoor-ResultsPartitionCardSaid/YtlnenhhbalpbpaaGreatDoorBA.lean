import Derived.Test.YtlnenhhbalpbpaaGreatDoorFE
import Derived.Test.YtlnenhhbalpbpaaGreatDoorGA
import Derived.Test.YtlnenhhbalpbpaaGreatDoorHB
set_option linter.unusedVariables false
namespace Go.Hw
open Go
def resC (r : FRes) : List Value:=[.int .i64 r.g.s,.int .i64 r.g.c,.int .i64 r.g.h,.int .i64 r.g.a,.int .i64 r.hg,.int .i64 r.ag,.int .i64 r.hp,.int .i64 r.ap,.int .i64 r.hc,.int .i64 r.ac,.int .i64 r.day,.bool r.forf,.bool r.both]
abbrev resV (r : FRes) : Value:=.agg (resC r).toArray
theorem resC_len (r : FRes) : (resC r).length = 13:=rfl
theorem resC_one (r : FRes) : ∀ u ∈ resC r,u.oneCell' = true:=allOne_ok rfl
def resO (o : Option FRes) : Value:=.tuple #[resV (o.getD res0),.bool o.isSome]
end Go.Hw
set_option linter.unusedVariables false
namespace Go.Hw
open Go
abbrev DuS:=Sli × FDuel
def duelC (s : Sli) (d : FDuel) : List Value:=[.int .i64 d.a,.int .i64 d.b,.slice s.A s.n s.c]
def encDu (p : DuS) : List Value:=duelC p.1 p.2
def DuAt (h : Ro) (p : DuS) : Prop:=SlOf resC 13 h p.1.A p.1.n p.2.ls ∧ p.1.n ≤ p.1.c
theorem DuAt.le {h h' : Ro} {p : DuS} (a : DuAt h p) (hl : Le h h') : DuAt h' p:=⟨a.1.le hl,a.2⟩
theorem DuAt.len {h : Ro} {p : DuS} (a : DuAt h p) : p.2.ls.length = p.1.n:=a.1.len
abbrev RdS:=Sli × List DuS
def encRd (r : RdS) : List Value:=[.slice r.1.A r.1.n r.1.c]
def duels (l : List DuS) : List FDuel:=l.map (·.2)
structure DusAt (h : Ro) (A : Option Addr) (n : Nat) (l : List DuS) : Prop where
  row : SlOf encDu 3 h A n l
  each : ∀ p ∈ l,DuAt h p
theorem DusAt.le {h h' : Ro} {A : Option Addr} {n : Nat} {l : List DuS} (a : DusAt h A n l) (hl : Le h h') : DusAt h' A n l:=⟨a.row.le hl,fun p hp => (a.each p hp).le hl⟩
def RdAt (h : Ro) (r : RdS) : Prop:=DusAt h r.1.A r.1.n r.2 ∧ r.1.n ≤ r.1.c
theorem RdAt.le {h h' : Ro} {r : RdS} (a : RdAt h r) (hl : Le h h') : RdAt h' r:=⟨a.1.le hl,a.2⟩
structure RdsAt (h : Ro) (A : Option Addr) (n : Nat) (l : List RdS) : Prop where
  row : SlOf encRd 1 h A n l
  each : ∀ r ∈ l,RdAt h r
theorem RdsAt.le {h h' : Ro} {A : Option Addr} {n : Nat} {l : List RdS} (a : RdsAt h A n l) (hl : Le h h') : RdsAt h' A n l:=⟨a.row.le hl,fun p hp => (a.each p hp).le hl⟩
def rounds (l : List RdS) : List (List FDuel):=l.map fun r => duels r.2
structure BrAt (h : Ro) (s : Sli) (l : List RdS) (b : FBr) : Prop where
  rs : RdsAt h s.A s.n l
  is : b.rs = rounds l
  nc : s.n ≤ s.c
theorem BrAt.le {h h' : Ro} {s : Sli} {l : List RdS} {b : FBr} (a : BrAt h s l b) (hl : Le h h') : BrAt h' s l b:=⟨a.rs.le hl,a.is,a.nc⟩
theorem BrAt.zero (h : Ro) : BrAt h sli0 [] br0:=⟨⟨SlOf.nil,fun p hp => absurd hp (by simp)⟩,rfl,Nat.le_refl _⟩
end Go.Hw
set_option linter.unusedVariables false
set_option linter.unusedSimpArgs false
set_option maxRecDepth 100000
set_option maxHeartbeats 8000000
namespace Go.Hw
open Go
attribute [local irreducible] GO GOl GDp Val Fn Res CellsAt ValE Blk OwnS MapA OwnPf Has Yl
open Go.Proofs (Tryz.prog)
def offN (m n : Int) : Bool:=decide (n < 0 ∨ m < n)
theorem within12a_c (h : Ro) (x m : Int) (b1 : Nat) (h1 : CellsAt h ⟨b1,0,none⟩ [.int .i64 m]) : Val Tryz.prog 72 #[.int .i64 x,.pointer (some ⟨b1,0,none⟩)] h (.bool (offN m x)):=by
  refine Val_intro (args:=[_,_]) ts_ok Go.Proofs.Tryz.func72 rfl rfl fun w0 X0 => ?_
  unfold offN
  repeat' (first|apply GO_seq|apply GO_region|apply GOl_nil|(apply GOl_unwanted;exact rfl;exact rfl)|(apply GOl_pv;(iterate 3 exact rfl))|(apply GOl_ov;exact rfl;exact rfl;(first|(apply OV_load;exact rfl;first|exact Lv_ro rfl (by assumption) rfl|exact Lv_roF rfl (by assumption) rfl|exact Lv_roF2 rfl (by assumption) rfl|exact Lv_roF3 rfl (by assumption) rfl));exact QA)|(apply GOl_split;exact rfl;exact rfl;all_goals (intro hc;try simp only [hcS,reduceCtorEq] at hc;try (exfalso;omega)))|(apply GO_retV1;(iterate 3 exact rfl)))
  all_goals (refine dec_ofV ?_;(try rw [ltI_t]);grind)
theorem within12_c (h : Ro) (m : Int) (A : Option Addr) (n c : Nat) (xs : List Int) (hx : SlOf encI 1 h A n xs) (hn : n ≤ 1000) : Val Tryz.prog 34 #[.int .i64 m,.slice A n c] h (.bool (!(xs.any (offN m)))):=by
  refine Val_intro (args:=[_,_]) ts_ok Go.Proofs.Tryz.func34 rfl rfl fun w0 X0 => ?_
  generalize hb : xs.any (offN m) = q at *
  repeat' (first|apply GO_seq|apply GO_region|apply GOl_nil|(apply GOl_pv;(iterate 3 exact rfl))|(apply GOl_to;(iterate 3 exact rfl);(first|(apply OpTo_box;exact rfl;intro b;skip)|(refine OpTo_relB (cs:=[.int .i64 m]) QK ?_;intro h1 hle1 hc1;apply OpTo_val;exact rfl;exact has71;(have hv:=conFI_c h1 A n c xs (hx.le hle1) (by omega) 72 [] [.pointer (some ⟨_,0,none⟩)] (offN m) has72 (fun x _ => within12a_c h1 x m _ hc1);rw [hb] at hv;exact hv);skip))))
  all_goals first
    | (exact GO_retV1 rfl rfl rfl rfl)
theorem within_iff (m : Int) (xs : List Int) : (!(xs.any (offN m))) = true ↔ ∀ x ∈ xs,0 ≤ x ∧ x ≤ m:=by
  rw [Bool.not_eq_true',List.any_eq_false]
  unfold offN
  constructor
  · intro h x hx
    have:=h x hx
    rw [decide_eq_true_eq] at this
    omega
  · intro h x hx
    have:=h x hx
    rw [decide_eq_true_eq]
    omega
theorem resOk_w (r : FRes) : ResOk r ↔ GameOk r.g ∧ (!([r.hg,r.ag,r.hp,r.ap].any (offN 99))) = true ∧ (!([r.hc,r.ac].any (offN 120))) = true ∧ (!([r.day].any (offN 1048576))) = true ∧ (r.g.c < 8 → r.hp + r.ap = 0) ∧
    (if r.forf = true then (if r.both = true then r.hg = 0 ∧ r.ag = 0 else (r.hg = 0 ∧ r.ag = 3) ∨ (r.hg = 3 ∧ r.ag = 0)) ∧ r.hp + r.ap + r.hc + r.ac = 0 else r.both = false):=by
  rw [within_iff,within_iff,within_iff]
  unfold ResOk Bel
  simp only [List.mem_cons,List.not_mem_nil,or_false,forall_eq_or_imp,forall_eq]
  constructor
  · rintro ⟨h1,h2,h3,h4,h5,h6,h7,h8,h9,h10⟩
    exact ⟨h1,⟨by omega,by omega,by omega,by omega⟩,⟨by omega,by omega⟩,by omega,h9,h10⟩
  · rintro ⟨h1,⟨h2,h3,h4,h5⟩,⟨h6,h7⟩,h8,h9,h10⟩
    exact ⟨h1,by omega,by omega,by omega,by omega,by omega,by omega,by omega,h9,h10⟩
theorem check12_c (h : Ro) (r : FRes) : Res Tryz.prog 12 #[resV r] h (fun u _ => u = .int .i64 (if ResOk r then 0 else 1)):=by
  refine Res_intro (args:=[_]) ts_ok Go.Proofs.Tryz.func12 rfl rfl fun w0 X0 => ?_
  have hgm:=fun h' => game7_c h' r.g
  have hR:=fun (_ : Unit) => resOk_w r
  have i1:=within_iff 99 [r.hg,r.ag,r.hp,r.ap]
  have i2:=within_iff 120 [r.hc,r.ac]
  have w1:=fun h' A (hs : SlOf encI 1 h' A 4 [r.hg,r.ag,r.hp,r.ap]) => within12_c h' 99 A 4 4 _ hs (by decide)
  have w2:=fun h' A (hs : SlOf encI 1 h' A 2 [r.hc,r.ac]) => within12_c h' 120 A 2 2 _ hs (by decide)
  have w3:=fun h' A (hs : SlOf encI 1 h' A 1 [r.day]) => within12_c h' 1048576 A 1 1 _ hs (by decide)
  generalize (!([r.hg,r.ag,r.hp,r.ap].any (offN 99))) = q1 at *
  generalize (!([r.hc,r.ac].any (offN 120))) = q2 at *
  generalize (!([r.day].any (offN 1048576))) = q3 at *
  simp only [List.mem_cons,List.not_mem_nil,or_false,forall_eq_or_imp,forall_eq] at i1 i2
  by_cases hgo : GameOk r.g
  · simp only [if_pos hgo] at hgm
    by_cases hq : q1 = true ∧ q2 = true ∧ q3 = true
    · obtain ⟨rfl,rfl,rfl⟩:=hq
      obtain ⟨⟨u1,u2⟩,⟨u3,u4⟩,⟨u5,u6⟩,u7,u8⟩:=i1.1 rfl
      obtain ⟨⟨u9,u10⟩,u11,u12⟩:=i2.1 rfl
      clear i1 i2
      all_goals
        repeat' (first|apply GO_seq|apply GO_skip|apply GO_region|apply GOl_nil|(apply GOl_unwanted;exact rfl;exact rfl)|(apply GOl_add;(iterate 3 exact rfl);omega;exact rfl;exact rfl)|(apply GOl_pv;(iterate 3 exact rfl))|(apply GOl_load;exact rfl;exact Ld_blk rfl QM rfl;exact rfl;exact rfl)|(apply GOl_ov;exact rfl;exact rfl;(first|(apply OV_idxA (j:=0);(iterate 5 exact rfl);omega;omega)|(apply OV_idxA (j:=1);(iterate 5 exact rfl);omega;omega));exact QA)|(apply GOl_to;(iterate 3 exact rfl);(first|(apply OpTo_store;(iterate 3 exact rfl);exact QR;(iterate 3 exact rfl);skip)|(apply OpTo_box;exact rfl;intro b;skip)|(apply OpTo_alloc;exact rfl;intro b;skip)|(apply OpTo_val;exact rfl;exact has26;exact hgm _;skip)|(apply OpTo_buildSliceS (enc:=encI) (n:=4) [r.hg,r.ag,r.hp,r.ap];(iterate 3 exact rfl);exact List.cons_ne_nil _ _;(iterate 4 exact rfl);exact (fun _ => rfl);exact rfl;exact rfl;intro b1 h1 hle1 hs1;skip)|(apply OpTo_buildSliceS (enc:=encI) (n:=2) [r.hc,r.ac];(iterate 3 exact rfl);exact List.cons_ne_nil _ _;(iterate 4 exact rfl);exact (fun _ => rfl);exact rfl;exact rfl;intro b2 h2 hle2 hs2;skip)|(apply OpTo_buildSliceS (enc:=encI) (n:=1) [r.day];(iterate 3 exact rfl);exact List.cons_ne_nil _ _;(iterate 4 exact rfl);exact (fun _ => rfl);exact rfl;exact rfl;intro b3 h3 hle3 hs3;skip)|(apply OpTo_val;exact rfl;exact has34;(first|exact w1 _ _ hs1|exact w2 _ _ hs2|exact w3 _ _ hs3);skip)))|(apply GO_cond;exact rfl;all_goals (intro hc;try simp only [hcS,reduceCtorEq] at hc;try (exfalso;omega)))|(apply GOl_split;exact rfl;exact rfl;all_goals (intro hc;try simp only [hcS,reduceCtorEq] at hc;try (exfalso;omega))))
      all_goals first
        | (exfalso;simp at hc;done)
        | (refine GO_retR1 rfl rfl rfl ?_;first|(rw [if_pos ((hR ()).2 ⟨hgo,rfl,rfl,rfl,by omega,by grind⟩)];done)|(rw [if_neg (fun k => by have k2:=((hR ()).1 k).2.2.2.2;grind)];done))
    · have hno : ¬ ResOk r:=fun k => hq (by have k2:=(hR ()).1 k;exact ⟨k2.2.1,k2.2.2.1,k2.2.2.2.1⟩)
      rw [if_neg hno]
      clear hR i1 i2 hno
      cases q1
      all_goals (try cases q2)
      all_goals (try cases q3)
      all_goals (try (exfalso;simp at hq;done))
      all_goals
        repeat' (first|apply GO_seq|apply GO_region|apply GOl_nil|(apply GOl_unwanted;exact rfl;exact rfl)|(apply GOl_pv;(iterate 3 exact rfl))|(apply GOl_load;exact rfl;exact Ld_blk rfl QM rfl;exact rfl;exact rfl)|(apply GOl_to;(iterate 3 exact rfl);(first|(apply OpTo_box;exact rfl;intro b;skip)|(apply OpTo_val;exact rfl;exact has26;exact hgm _;skip)|(apply OpTo_buildSliceS (enc:=encI) (n:=4) [r.hg,r.ag,r.hp,r.ap];(iterate 3 exact rfl);exact List.cons_ne_nil _ _;(iterate 4 exact rfl);exact (fun _ => rfl);exact rfl;exact rfl;intro b1 h1 hle1 hs1;skip)|(apply OpTo_buildSliceS (enc:=encI) (n:=2) [r.hc,r.ac];(iterate 3 exact rfl);exact List.cons_ne_nil _ _;(iterate 4 exact rfl);exact (fun _ => rfl);exact rfl;exact rfl;intro b2 h2 hle2 hs2;skip)|(apply OpTo_buildSliceS (enc:=encI) (n:=1) [r.day];(iterate 3 exact rfl);exact List.cons_ne_nil _ _;(iterate 4 exact rfl);exact (fun _ => rfl);exact rfl;exact rfl;intro b3 h3 hle3 hs3;skip)|(apply OpTo_val;exact rfl;exact has34;(first|exact w1 _ _ hs1|exact w2 _ _ hs2|exact w3 _ _ hs3);skip)))|(apply GO_cond;exact rfl;all_goals (intro hc;try simp only [hcS,reduceCtorEq] at hc;try (exfalso;omega)))|(apply GOl_split;exact rfl;exact rfl;all_goals (intro hc;try simp only [hcS,reduceCtorEq] at hc;try (exfalso;omega))))
      all_goals first
        | (exfalso;simp at hc;done)
        | (exact GO_retR1 rfl rfl rfl rfl)
  · simp only [if_neg hgo] at hgm
    rw [if_neg (fun k => hgo ((hR ()).1 k).1)]
    repeat' (first|apply GO_seq|apply GO_region|apply GOl_nil|(apply GOl_unwanted;exact rfl;exact rfl)|(apply GOl_pv;(iterate 3 exact rfl))|(apply GOl_load;exact rfl;exact Ld_blk rfl QM rfl;exact rfl;exact rfl)|(apply GOl_to;(iterate 3 exact rfl);(first|(apply OpTo_box;exact rfl;intro b;skip)|(apply OpTo_val;exact rfl;exact has26;exact hgm _;skip)))|(apply GO_cond;exact rfl;all_goals (intro hc;try simp only [hcS,reduceCtorEq] at hc;try (exfalso;omega)))|(apply GOl_split;exact rfl;exact rfl;all_goals (intro hc;try simp only [hcS,reduceCtorEq] at hc;try (exfalso;omega))))
    all_goals first
      | (exfalso;omega)
      | (exact GO_retR1 rfl rfl rfl rfl)
end Go.Hw

import Derived.Test.YtphlhpbmkejbaaaGreatDoorFE
import Derived.Test.YtphlhpbmkejbaaaGreatDoorGA
import Derived.Test.YtphlhpbmkejbaaaGreatDoorHB
set_option linter.unusedSimpArgs false
set_option linter.unusedVariables false
namespace Go.Hw
open Go
def resC (r : FRes) : List Value:=[.int .i64 r.g.s,.int .i64 r.g.c,.int .i64 r.g.h,.int .i64 r.g.a,.int .i64 r.hg,.int .i64 r.ag,.int .i64 r.hp,.int .i64 r.ap,.int .i64 r.hc,.int .i64 r.ac,.int .i64 r.day,.bool r.forf,.bool r.both]
abbrev resV (r : FRes) : Value:=.agg (resC r).toArray
theorem resC_len (r : FRes) : (resC r).length = 13:=rfl
theorem resC_one (r : FRes) : ∀ u ∈ resC r,u.oneCell' = true:=allOne_ok rfl
end Go.Hw
set_option linter.unusedVariables false
namespace Go.Hw
open Go
abbrev ptrB (b : Nat) : Value:=.pointer (some ⟨b,0,none⟩)
def tieC (t : FTie) : List Value:=[.int .i64 t.legs,.bool t.away]
abbrev tieV (t : FTie) : Value:=.agg (tieC t).toArray
abbrev DuS:=Sli × FDuel
def duelC (s : Sli) (d : FDuel) : List Value:=[.int .i64 d.a,.int .i64 d.b,.slice s.A s.n s.c]
abbrev duelV (s : Sli) (d : FDuel) : Value:=.agg (duelC s d).toArray
def encDu (p : DuS) : List Value:=duelC p.1 p.2
theorem encDu_len (p : DuS) : (encDu p).length = 3:=rfl
theorem encDu_one (p : DuS) : ∀ u ∈ encDu p,u.oneCell' = true:=allOne_ok rfl
def duel0 : FDuel:=⟨0,0,[]⟩
def du0 : DuS:=(sli0,duel0)
def DuAt (h : Ro) (p : DuS) : Prop:=SlOf resC 13 h p.1.A p.1.n p.2.ls ∧ p.1.n ≤ p.1.c
theorem DuAt.le {h h' : Ro} {p : DuS} (a : DuAt h p) (hl : Le h h') : DuAt h' p:=⟨a.1.le hl,a.2⟩
theorem DuAt.len {h : Ro} {p : DuS} (a : DuAt h p) : p.2.ls.length = p.1.n:=a.1.len
abbrev RdS:=Sli × List DuS
def encRd (r : RdS) : List Value:=[.slice r.1.A r.1.n r.1.c]
theorem encRd_len (r : RdS) : (encRd r).length = 1:=rfl
theorem encRd_one (r : RdS) : ∀ u ∈ encRd r,u.oneCell' = true:=allOne_ok rfl
def rd0 : RdS:=(sli0,[])
def duels (l : List DuS) : List FDuel:=l.map (·.2)
theorem duels_snoc (l : List DuS) (p : DuS) : duels (l ++ [p]) = duels l ++ [p.2]:=by unfold duels;rw [List.map_append];rfl
theorem duels_len (l : List DuS) : (duels l).length = l.length:=by unfold duels;exact List.length_map _
structure DusAt (h : Ro) (A : Option Addr) (n : Nat) (l : List DuS) : Prop where
  row : SlOf encDu 3 h A n l
  each : ∀ p ∈ l,DuAt h p
theorem DusAt.le {h h' : Ro} {A : Option Addr} {n : Nat} {l : List DuS} (a : DusAt h A n l) (hl : Le h h') : DusAt h' A n l:=⟨a.row.le hl,fun p hp => (a.each p hp).le hl⟩
def RdAt (h : Ro) (r : RdS) : Prop:=DusAt h r.1.A r.1.n r.2 ∧ r.1.n ≤ r.1.c
theorem RdAt.le {h h' : Ro} {r : RdS} (a : RdAt h r) (hl : Le h h') : RdAt h' r:=⟨a.1.le hl,a.2⟩
structure RdsAt (h : Ro) (A : Option Addr) (n : Nat) (l : List RdS) : Prop where
  row : SlOf encRd 1 h A n l
  each : ∀ r ∈ l,RdAt h r
theorem RdsAt.le {h h' : Ro} {A : Option Addr} {n : Nat} {l : List RdS} (a : RdsAt h A n l) (hl : Le h h') : RdsAt h' A n l:=⟨a.row.le hl,fun p hp => (a.each p hp).le hl⟩
def rounds (l : List RdS) : List (List FDuel):=l.map fun r => duels r.2
theorem rounds_len (l : List RdS) : (rounds l).length = l.length:=by unfold rounds;exact List.length_map _
def brC (s : Sli) (t : FTie) : List Value:=[.int .i64 t.legs,.bool t.away,.slice s.A s.n s.c]
abbrev brV (s : Sli) (t : FTie) : Value:=.agg (brC s t).toArray
structure BrAt (h : Ro) (s : Sli) (l : List RdS) (b : FBr) : Prop where
  rs : RdsAt h s.A s.n l
  is : b.rs = rounds l
  nc : s.n ≤ s.c
theorem BrAt.le {h h' : Ro} {s : Sli} {l : List RdS} {b : FBr} (a : BrAt h s l b) (hl : Le h h') : BrAt h' s l b:=⟨a.rs.le hl,a.is,a.nc⟩
theorem BrAt.zero (h : Ro) : BrAt h sli0 [] br0:=⟨⟨SlOf.nil,fun p hp => absurd hp (by simp)⟩,rfl,Nat.le_refl _⟩
def BrOut (h : Ro) (u : Value) (b : FBr) (e : Int) : Prop:=∃ s l,u = .tuple #[brV s b.t,.int .i64 e] ∧ BrAt h s l b
end Go.Hw
set_option linter.unusedVariables false
set_option linter.unusedSimpArgs false
set_option maxRecDepth 100000
set_option maxHeartbeats 8000000
namespace Go.Hw
open Go
attribute [local irreducible] GO GOl GDp Val Fn Res CellsAt ValE Blk OwnS MapA OwnPf Has Yl
open Go.Proofs (Tryz.prog)
def offN (m n : Int) : Bool:=decide (n < 0 ∨ m < n)
theorem within12a_c (h : Ro) (x m : Int) (b1 : Nat) (h1 : CellsAt h ⟨b1,0,none⟩ [.int .i64 m]) : Val Tryz.prog 87 #[.int .i64 x,.pointer (some ⟨b1,0,none⟩)] h (.bool (offN m x)):=by
  refine Val_intro (args:=[_,_]) ts_ok Go.Proofs.Tryz.func87 rfl rfl fun w0 X0 => ?_
  unfold offN
  repeat' (first|apply GO_seq|apply GO_region|apply GOl_nil|(apply GOl_unwanted;exact rfl;exact rfl)|(apply GOl_pv;(iterate 3 exact rfl))|(apply GOl_ov;exact rfl;exact rfl;(first|(apply OV_load;exact rfl;first|exact Lv_ro rfl (by assumption) rfl|exact Lv_roF rfl (by assumption) rfl|exact Lv_roF2 rfl (by assumption) rfl|exact Lv_roF3 rfl (by assumption) rfl));exact QA)|(apply GOl_split;exact rfl;exact rfl;all_goals (intro hc;try simp only [hcS,reduceCtorEq] at hc;try (exfalso;omega)))|(apply GO_retV1;(iterate 3 exact rfl)))
  all_goals (refine dec_ofV ?_;(try rw [ltI_t]);grind)
theorem within12_c (h : Ro) (m : Int) (A : Option Addr) (n c : Nat) (xs : List Int) (hx : SlOf encI 1 h A n xs) (hn : n ≤ 1000) : Val Tryz.prog 61 #[.int .i64 m,.slice A n c] h (.bool (!(xs.any (offN m)))):=by
  refine Val_intro (args:=[_,_]) ts_ok Go.Proofs.Tryz.func61 rfl rfl fun w0 X0 => ?_
  generalize hb : xs.any (offN m) = q at *
  repeat' (first|apply GO_seq|apply GO_region|apply GOl_nil|(apply GOl_pv;(iterate 3 exact rfl))|(apply GOl_to;(iterate 3 exact rfl);(first|(apply OpTo_box;exact rfl;intro b;skip)|(refine OpTo_relB (cs:=[.int .i64 m]) QK ?_;intro h1 hle1 hc1;apply OpTo_val;exact rfl;exact has68;(have hv:=conFI_c h1 A n c xs (hx.le hle1) (by omega) 87 [] [.pointer (some ⟨_,0,none⟩)] (offN m) has87 (fun x _ => within12a_c h1 x m _ hc1);rw [hb] at hv;exact hv);skip))))
  all_goals first
    | (exact GO_retV1 rfl rfl rfl rfl)
theorem within_iff (m : Int) (xs : List Int) : (!(xs.any (offN m))) = true ↔ ∀ x ∈ xs,0 ≤ x ∧ x ≤ m:=by
  rw [Bool.not_eq_true',List.any_eq_false]
  unfold offN
  constructor
  · intro h x hx
    have:=h x hx
    rw [decide_eq_true_eq] at this
    omega
  · intro h x hx
    have:=h x hx
    rw [decide_eq_true_eq]
    omega
theorem resOk_w (r : FRes) : ResOk r ↔ GameOk r.g ∧ (!([r.hg,r.ag,r.hp,r.ap].any (offN 99))) = true ∧ (!([r.hc,r.ac].any (offN 120))) = true ∧ (!([r.day].any (offN 1048576))) = true ∧ (r.g.c < 8 → r.hp + r.ap = 0) ∧
    (if r.forf = true then (if r.both = true then r.hg = 0 ∧ r.ag = 0 else (r.hg = 0 ∧ r.ag = 3) ∨ (r.hg = 3 ∧ r.ag = 0)) ∧ r.hp + r.ap + r.hc + r.ac = 0 else r.both = false):=by
  rw [within_iff,within_iff,within_iff]
  unfold ResOk Bel
  simp only [List.mem_cons,List.not_mem_nil,or_false,forall_eq_or_imp,forall_eq]
  constructor
  · rintro ⟨h1,h2,h3,h4,h5,h6,h7,h8,h9,h10⟩
    exact ⟨h1,⟨by omega,by omega,by omega,by omega⟩,⟨by omega,by omega⟩,by omega,h9,h10⟩
  · rintro ⟨h1,⟨h2,h3,h4,h5⟩,⟨h6,h7⟩,h8,h9,h10⟩
    exact ⟨h1,by omega,by omega,by omega,by omega,by omega,by omega,by omega,h9,h10⟩
theorem check12_c (h : Ro) (r : FRes) : Res Tryz.prog 30 #[resV r] h (fun u _ => u = .int .i64 (if ResOk r then 0 else 1)):=by
  refine Res_intro (args:=[_]) ts_ok Go.Proofs.Tryz.func30 rfl rfl fun w0 X0 => ?_
  have hgm:=fun h' => game7_c h' r.g
  have hR:=fun (_ : Unit) => resOk_w r
  have i1:=within_iff 99 [r.hg,r.ag,r.hp,r.ap]
  have i2:=within_iff 120 [r.hc,r.ac]
  have w1:=fun h' A (hs : SlOf encI 1 h' A 4 [r.hg,r.ag,r.hp,r.ap]) => within12_c h' 99 A 4 4 _ hs (by decide)
  have w2:=fun h' A (hs : SlOf encI 1 h' A 2 [r.hc,r.ac]) => within12_c h' 120 A 2 2 _ hs (by decide)
  have w3:=fun h' A (hs : SlOf encI 1 h' A 1 [r.day]) => within12_c h' 1048576 A 1 1 _ hs (by decide)
  generalize (!([r.hg,r.ag,r.hp,r.ap].any (offN 99))) = q1 at *
  generalize (!([r.hc,r.ac].any (offN 120))) = q2 at *
  generalize (!([r.day].any (offN 1048576))) = q3 at *
  simp only [List.mem_cons,List.not_mem_nil,or_false,forall_eq_or_imp,forall_eq] at i1 i2
  by_cases hgo : GameOk r.g
  · simp only [if_pos hgo] at hgm
    by_cases hq : q1 = true ∧ q2 = true ∧ q3 = true
    · obtain ⟨rfl,rfl,rfl⟩:=hq
      obtain ⟨⟨u1,u2⟩,⟨u3,u4⟩,⟨u5,u6⟩,u7,u8⟩:=i1.1 rfl
      obtain ⟨⟨u9,u10⟩,u11,u12⟩:=i2.1 rfl
      clear i1 i2
      all_goals
        repeat' (first|apply GO_seq|apply GO_skip|apply GO_region|apply GOl_nil|(apply GOl_unwanted;exact rfl;exact rfl)|(apply GOl_add;(iterate 3 exact rfl);omega;exact rfl;exact rfl)|(apply GOl_pv;(iterate 3 exact rfl))|(apply GOl_load;exact rfl;exact Ld_blk rfl QM rfl;exact rfl;exact rfl)|(apply GOl_ov;exact rfl;exact rfl;(first|(apply OV_idxA (j:=0);(iterate 5 exact rfl);omega;omega)|(apply OV_idxA (j:=1);(iterate 5 exact rfl);omega;omega));exact QA)|(apply GOl_to;(iterate 3 exact rfl);(first|(apply OpTo_store;(iterate 3 exact rfl);exact QR;(iterate 3 exact rfl);skip)|(apply OpTo_box;exact rfl;intro b;skip)|(apply OpTo_alloc;exact rfl;intro b;skip)|(apply OpTo_val;exact rfl;exact has60;exact hgm _;skip)|(apply OpTo_buildSliceS (enc:=encI) (n:=4) [r.hg,r.ag,r.hp,r.ap];(iterate 3 exact rfl);exact List.cons_ne_nil _ _;(iterate 4 exact rfl);exact (fun _ => rfl);exact rfl;exact rfl;intro b1 h1 hle1 hs1;skip)|(apply OpTo_buildSliceS (enc:=encI) (n:=2) [r.hc,r.ac];(iterate 3 exact rfl);exact List.cons_ne_nil _ _;(iterate 4 exact rfl);exact (fun _ => rfl);exact rfl;exact rfl;intro b2 h2 hle2 hs2;skip)|(apply OpTo_buildSliceS (enc:=encI) (n:=1) [r.day];(iterate 3 exact rfl);exact List.cons_ne_nil _ _;(iterate 4 exact rfl);exact (fun _ => rfl);exact rfl;exact rfl;intro b3 h3 hle3 hs3;skip)|(apply OpTo_val;exact rfl;exact has61;(first|exact w1 _ _ hs1|exact w2 _ _ hs2|exact w3 _ _ hs3);skip)))|(apply GO_cond;exact rfl;all_goals (intro hc;try simp only [hcS,reduceCtorEq] at hc;try (exfalso;omega)))|(apply GOl_split;exact rfl;exact rfl;all_goals (intro hc;try simp only [hcS,reduceCtorEq] at hc;try (exfalso;omega))))
      all_goals first
        | (exfalso;simp at hc;done)
        | (refine GO_retR1 rfl rfl rfl ?_;first|(rw [if_pos ((hR ()).2 ⟨hgo,rfl,rfl,rfl,by omega,by grind⟩)];done)|(rw [if_neg (fun k => by have k2:=((hR ()).1 k).2.2.2.2;grind)];done))
    · have hno : ¬ ResOk r:=fun k => hq (by have k2:=(hR ()).1 k;exact ⟨k2.2.1,k2.2.2.1,k2.2.2.2.1⟩)
      rw [if_neg hno]
      clear hR i1 i2 hno
      cases q1
      all_goals (try cases q2)
      all_goals (try cases q3)
      all_goals (try (exfalso;simp at hq;done))
      all_goals
        repeat' (first|apply GO_seq|apply GO_region|apply GOl_nil|(apply GOl_unwanted;exact rfl;exact rfl)|(apply GOl_pv;(iterate 3 exact rfl))|(apply GOl_load;exact rfl;exact Ld_blk rfl QM rfl;exact rfl;exact rfl)|(apply GOl_to;(iterate 3 exact rfl);(first|(apply OpTo_box;exact rfl;intro b;skip)|(apply OpTo_val;exact rfl;exact has60;exact hgm _;skip)|(apply OpTo_buildSliceS (enc:=encI) (n:=4) [r.hg,r.ag,r.hp,r.ap];(iterate 3 exact rfl);exact List.cons_ne_nil _ _;(iterate 4 exact rfl);exact (fun _ => rfl);exact rfl;exact rfl;intro b1 h1 hle1 hs1;skip)|(apply OpTo_buildSliceS (enc:=encI) (n:=2) [r.hc,r.ac];(iterate 3 exact rfl);exact List.cons_ne_nil _ _;(iterate 4 exact rfl);exact (fun _ => rfl);exact rfl;exact rfl;intro b2 h2 hle2 hs2;skip)|(apply OpTo_buildSliceS (enc:=encI) (n:=1) [r.day];(iterate 3 exact rfl);exact List.cons_ne_nil _ _;(iterate 4 exact rfl);exact (fun _ => rfl);exact rfl;exact rfl;intro b3 h3 hle3 hs3;skip)|(apply OpTo_val;exact rfl;exact has61;(first|exact w1 _ _ hs1|exact w2 _ _ hs2|exact w3 _ _ hs3);skip)))|(apply GO_cond;exact rfl;all_goals (intro hc;try simp only [hcS,reduceCtorEq] at hc;try (exfalso;omega)))|(apply GOl_split;exact rfl;exact rfl;all_goals (intro hc;try simp only [hcS,reduceCtorEq] at hc;try (exfalso;omega))))
      all_goals first
        | (exfalso;simp at hc;done)
        | (exact GO_retR1 rfl rfl rfl rfl)
  · simp only [if_neg hgo] at hgm
    rw [if_neg (fun k => hgo ((hR ()).1 k).1)]
    repeat' (first|apply GO_seq|apply GO_region|apply GOl_nil|(apply GOl_unwanted;exact rfl;exact rfl)|(apply GOl_pv;(iterate 3 exact rfl))|(apply GOl_load;exact rfl;exact Ld_blk rfl QM rfl;exact rfl;exact rfl)|(apply GOl_to;(iterate 3 exact rfl);(first|(apply OpTo_box;exact rfl;intro b;skip)|(apply OpTo_val;exact rfl;exact has60;exact hgm _;skip)))|(apply GO_cond;exact rfl;all_goals (intro hc;try simp only [hcS,reduceCtorEq] at hc;try (exfalso;omega)))|(apply GOl_split;exact rfl;exact rfl;all_goals (intro hc;try simp only [hcS,reduceCtorEq] at hc;try (exfalso;omega))))
    all_goals first
      | (exfalso;omega)
      | (exact GO_retR1 rfl rfl rfl rfl)
end Go.Hw
set_option linter.unusedVariables false
set_option linter.unusedSimpArgs false
set_option maxRecDepth 100000
set_option maxHeartbeats 8000000
namespace Go.Hw
open Go
attribute [local irreducible] GO GOl GDp Val Fn Res CellsAt ValE Blk OwnS MapA OwnPf Has Yl
open Go.Proofs (Tryz.prog)
theorem isRules_c (h : Ro) (t : FTie) : Val Tryz.prog 28 #[tieV t] h (.bool (decide (IsTie t))):=by
  refine Val_intro (args:=[_]) ts_ok Go.Proofs.Tryz.func28 rfl rfl fun w0 X0 => ?_
  repeat' (first|apply GO_seq|apply GO_region|apply GOl_nil|(apply GOl_unwanted;exact rfl;exact rfl)|(apply GOl_pv;(iterate 3 exact rfl))|(apply GOl_load;exact rfl;exact Ld_blk rfl QM rfl;exact rfl;exact rfl)|(apply GOl_to;(iterate 3 exact rfl);(first|(apply OpTo_box;exact rfl;intro b;skip)))|(apply GOl_split;exact rfl;exact rfl;all_goals (intro hc;try simp only [hcS,reduceCtorEq] at hc;try (exfalso;omega)))|(apply GO_retV1;(iterate 3 exact rfl)))
  all_goals (refine dec_ofV ?_;(try rw [eqI_t]);unfold IsTie;grind)
theorem isClub_c (h : Ro) (n : Int) : Val Tryz.prog 29 #[.int .i64 n] h (.bool (decide (Bel n 192))):=by
  refine Val_intro (args:=[_]) ts_ok Go.Proofs.Tryz.func29 rfl rfl fun w0 X0 => ?_
  repeat' (first|apply GO_seq|apply GO_region|apply GOl_nil|(apply GOl_unwanted;exact rfl;exact rfl)|(apply GOl_pv;(iterate 3 exact rfl))|(apply GOl_split;exact rfl;exact rfl;all_goals (intro hc;try simp only [hcS,reduceCtorEq] at hc;try (exfalso;omega)))|(apply GO_retV1;(iterate 3 exact rfl)))
  all_goals (refine dec_ofV ?_;(try rw [ltI_t]);unfold Bel;grind)
def bduC (s : Sli) (d : FDuel) (t : FTie) : List Value:=[.int .i64 d.a,.int .i64 d.b,.slice s.A s.n s.c,.int .i64 t.legs,.bool t.away]
abbrev bduV (s : Sli) (d : FDuel) (t : FTie) : Value:=.agg (bduC s d t).toArray
theorem leg_c (h : Ro) (s : Sli) (d : FDuel) (t : FTie) (i : Int) : Val Tryz.prog 31 #[bduV s d t,.int .i64 i] h (.tuple #[.int .i64 (if i = 0 then d.a else d.b),.int .i64 (if i = 0 then d.b else d.a)]):=by
  refine Val_intro (args:=[_,_]) ts_ok Go.Proofs.Tryz.func31 rfl rfl fun w0 X0 => ?_
  by_cases hi : i = 0
  · rw [if_pos hi,if_pos hi]
    repeat' (first|apply GO_seq|apply GO_region|apply GOl_nil|(apply GOl_pv;(iterate 3 exact rfl))|(apply GOl_to;(iterate 3 exact rfl);(first|(apply OpTo_box;exact rfl;intro b;skip)))|(apply GO_drawp (n:=2) [0,1,2,6,3,4,5,7] [(0,0),(1,0),(2,0),(3,0),(4,0),(5,0),(6,0),(7,0)];kernel_rfl)|(apply GP_pv;exact rfl;kernel_rfl;(iterate 3 exact rfl))|(apply GP_loadB;exact rfl;kernel_rfl;(iterate 3 exact rfl);exact QM;exact rfl;exact rfl)|(apply GP_done;kernel_rfl;exact rfl)|(apply GO_cond;exact rfl;all_goals (intro hc;try simp only [hcS,reduceCtorEq] at hc;try (exfalso;omega)))|(apply GO_retV2;(iterate 4 exact rfl)))
    all_goals first|rfl|(exfalso;omega)
  · rw [if_neg hi,if_neg hi]
    repeat' (first|apply GO_seq|apply GO_skip|apply GO_region|apply GOl_nil|(apply GOl_pv;(iterate 3 exact rfl))|(apply GOl_to;(iterate 3 exact rfl);(first|(apply OpTo_box;exact rfl;intro b;skip)))|(apply GO_drawp (n:=3) [0,1,2,6,3,4,5,7] [(0,0),(1,0),(2,0),(3,0),(4,0),(5,0),(6,0),(7,0)];kernel_rfl)|(apply GP_pv;exact rfl;kernel_rfl;(iterate 3 exact rfl))|(apply GP_loadB;exact rfl;kernel_rfl;(iterate 3 exact rfl);exact QM;exact rfl;exact rfl)|(apply GP_done;kernel_rfl;exact rfl)|(apply GO_cond;exact rfl;all_goals (intro hc;try simp only [hcS,reduceCtorEq] at hc;try (exfalso;omega)))|(apply GO_retV2;(iterate 4 exact rfl)))
    all_goals first|rfl|(exfalso;omega)
theorem leg_nat (h : Ro) (s : Sli) (d : FDuel) (t : FTie) (k : Nat) : Val Tryz.prog 31 #[bduV s d t,.int .i64 (k : Int)] h (.tuple #[.int .i64 (legA d k),.int .i64 (legB d k)]):=by
  have:=leg_c h s d t k
  unfold legA legB
  by_cases hk : k = 0
  · subst hk;exact this
  · rw [if_neg (by omega),if_neg (by omega)] at this
    rw [if_neg hk,if_neg hk];exact this
theorem full_c (h : Ro) (s : Sli) (d : FDuel) (t : FTie) (hs : d.ls.length = s.n) : Val Tryz.prog 50 #[bduV s d t] h (.bool (decide (FullD d t))):=by
  refine Val_intro (args:=[_]) ts_ok Go.Proofs.Tryz.func50 rfl rfl fun w0 X0 => ?_
  repeat' (first|apply GO_seq|apply GO_region|apply GOl_nil|(apply GOl_pv;(iterate 3 exact rfl))|(apply GOl_load;exact rfl;exact Ld_blk rfl QM rfl;exact rfl;exact rfl)|(apply GOl_to;(iterate 3 exact rfl);(first|(apply OpTo_box;exact rfl;intro b;skip)))|(apply GO_retV1;(iterate 3 exact rfl)))
  all_goals (refine dec_ofV ?_;rw [leI_t];unfold FullD;rw [hs])
theorem waits_c (h : Ro) (s : Sli) (d : FDuel) (t : FTie) (hs : d.ls.length = s.n) (x : FRes) : Val Tryz.prog 48 #[bduV s d t,resV x] h (.bool (decide (WaitD d t x))):=by
  refine Val_intro (args:=[_,_]) ts_ok Go.Proofs.Tryz.func48 rfl rfl fun w0 X0 => ?_
  have hl:=leg_nat h s d t s.n
  have hf:=full_c h s d t hs
  repeat' (first|apply GO_seq|apply GO_region|apply GOl_nil|(apply GOl_unwanted;exact rfl;exact rfl)|(apply GOl_pv;(iterate 3 exact rfl))|(apply GOl_load;exact rfl;exact Ld_blk rfl QM rfl;exact rfl;exact rfl)|(apply GOl_to;(iterate 3 exact rfl);(first|(apply OpTo_box;exact rfl;intro b;skip)|(apply OpTo_val;exact rfl;exact has31;exact hl;skip)|(apply OpTo_val;exact rfl;exact has50;exact hf;skip)))|(apply GOl_split;exact rfl;exact rfl;all_goals (intro hc;try simp only [hcS,reduceCtorEq] at hc;try (exfalso;omega)))|(apply GO_retV1;(iterate 3 exact rfl)))
  all_goals (refine dec_ofV ?_;(try simp only [Bool.not_eq_true',eqI_t,decide_eq_false_iff_not]);unfold WaitD;rw [hs];grind)
theorem sameCup_c (h : Ro) (x y : FRes) : Val Tryz.prog 32 #[resV x,resV y] h (.bool (decide (SameCup x y))):=by
  refine Val_intro (args:=[_,_]) ts_ok Go.Proofs.Tryz.func32 rfl rfl fun w0 X0 => ?_
  repeat' (first|apply GO_seq|apply GO_region|apply GOl_nil|(apply GOl_unwanted;exact rfl;exact rfl)|(apply GOl_pv;(iterate 3 exact rfl))|(apply GOl_load;exact rfl;exact Ld_blk rfl QM rfl;exact rfl;exact rfl)|(apply GOl_to;(iterate 3 exact rfl);(first|(apply OpTo_box;exact rfl;intro b;skip)))|(apply GOl_split;exact rfl;exact rfl;all_goals (intro hc;try simp only [hcS,reduceCtorEq] at hc;try (exfalso;omega)))|(apply GO_retV1;(iterate 3 exact rfl)))
  all_goals (refine dec_ofV ?_;(try rw [eqI_t]);unfold SameCup;grind)
structure DuG (h : Ro) (s : Sli) (d : FDuel) : Prop where
  at' : DuAt h (s,d)
  few : s.n ≤ 2
  ok : ∀ x ∈ d.ls,ResOk x
theorem DuG.le {h h' : Ro} {s : Sli} {d : FDuel} (g : DuG h s d) (hl : Le h h') : DuG h' s d:=⟨g.at'.le hl,g.few,g.ok⟩
theorem DuG.of {h : Ro} {s : Sli} {d : FDuel} {t : FTie} (a : DuAt h (s,d)) (o : DuelOk d t) : DuG h s d:=⟨a,by
  have h1:=o.ok0.2.2.2.2
  have h2:=o.ok0.1
  have h3:=a.len
  unfold IsTie at h2
  dsimp only at h3
  omega,o.res⟩
def LeadB (l : FLead) (k : Nat) : Prop:=-(99 * (k : Int)) ≤ l.goals ∧ l.goals ≤ 99 * (k : Int) ∧ -(99 * (k : Int)) ≤ l.away ∧ l.away ≤ 99 * (k : Int) ∧ -99 ≤ l.pens ∧ l.pens ≤ 99
theorem leadL_snoc' (ls : List FRes) (x : FRes) : leadL 0 ⟨0,0,0⟩ (ls ++ [x]) = leadS (leadL 0 ⟨0,0,0⟩ ls) ls.length x:=by rw [leadL_snoc,Nat.zero_add]
theorem leadB_all {ls : List FRes} (h : ∀ x ∈ ls,ResOk x) : LeadB (leadL 0 ⟨0,0,0⟩ ls) ls.length:=by
  refine snocI (P:=fun ls => (∀ x ∈ ls,ResOk x) → LeadB (leadL 0 ⟨0,0,0⟩ ls) ls.length) (fun _ => by unfold LeadB leadL;simp) (fun l x ih h => ?_) ls h
  have h1:=ih fun y hy => h y (by simp [hy])
  have h2:=h x (by simp)
  rw [leadL_snoc',List.length_append,List.length_singleton]
  unfold LeadB at h1 ⊢
  have:=leadS_bd (l:=leadL 0 ⟨0,0,0⟩ l) (i:=l.length) h2 (99 * (l.length : Int)) h1
  omega
def leadC (l : FLead) : List Value:=[.int .i64 l.goals,.int .i64 l.away,.int .i64 l.pens]
theorem lead_c (h : Ro) (s : Sli) (d : FDuel) (t : FTie) (hg : DuG h s d) : Res Tryz.prog 59 #[bduV s d t] h (fun u _ => u = .agg (leadC (leadD d)).toArray):=by
  refine Res_intro (args:=[_]) ts_ok Go.Proofs.Tryz.func59 rfl rfl fun w0 X0 => ?_
  have hx:=hg.at'.1
  have hn:=hg.few
  have hok:=hg.ok
  dsimp only at hx
  have hlen:=hx.len
  have hB:=fun k => leadB_all (ls:=d.ls.take k) (fun x hx => hok x (List.mem_of_mem_take hx))
  repeat' (first|apply GO_seq|apply GO_block|apply GO_region|apply GOl_nil|(apply GOl_to;(iterate 3 exact rfl);apply OpTo_alloc (e:=99);exact rfl;intro bL)|(apply GOl_pv;(iterate 3 exact rfl))|(apply GOl_load;exact rfl;exact Ld_blk rfl QM rfl;exact rfl;exact rfl)|(apply GOl_to;(iterate 3 exact rfl);(first|(apply OpTo_box;exact rfl;intro b;skip))))
  refine GO_loopT (X:=Nat) (fun k => k ≤ s.n) (fun k => s.n - k) (fun k => [(9,.int .i64 k),(8,.int .i64 s.n),(7,.slice s.A s.n s.c),(2,ptrB bL)])
    (fun k => [Blk bL 99 (leadC (leadL 0 ⟨0,0,0⟩ (d.ls.take k)))]) (fun _ => h) 0 (by omega) QS QT rfl ?_
  rintro k hk ih
  by_cases hkn : k < s.n
  · have a1:=hx.addrD hkn
    have c1 : CellsAt h ((addrD s.A).add (k * ty40.size)) (resC (d.ls.getD k res0)):=hx.cellsD res0 hkn
    have et:=take7 res0 (xs:=d.ls) hlen hkn
    have hm:=mem7 res0 (show k < d.ls.length by omega)
    generalize d.ls.getD k res0 = x at *
    obtain ⟨_,⟨u1,u2⟩,⟨u3,u4⟩,⟨u5,u6⟩,⟨u7,u8⟩,_⟩:=hok x hm
    have h3:=ih (k + 1) (by omega) (by omega)
    rw [et,leadL_snoc',List.length_take,Nat.min_eq_left (show k ≤ d.ls.length by omega)] at h3
    have hb:=hB k
    rw [List.length_take,Nat.min_eq_left (show k ≤ d.ls.length by omega)] at hb
    generalize leadL 0 ⟨0,0,0⟩ (d.ls.take k) = z at *
    unfold LeadB at hb
    unfold leadS at h3
    clear ih hok hB et
    by_cases k0 : k = 0
    · rw [if_pos k0] at h3
      repeat' (first|apply GO_seq|apply GO_skip|apply GO_inBlock|apply GO_block|apply GO_region|apply GOl_nil|(apply GOl_to;(iterate 3 exact rfl);apply OpTo_alloc (e:=40);exact rfl;intro bX)|(apply GOl_add;(iterate 3 exact rfl);omega;exact rfl;exact rfl)|(apply GOl_sub;(iterate 3 exact rfl);omega;exact rfl;exact rfl)|(apply GOl_pv;(iterate 3 exact rfl))|(apply GOl_load;exact rfl;exact Ld_blk rfl QM rfl;exact rfl;exact rfl)|(apply GOl_ov;exact rfl;exact rfl;(first|(apply OV_idxS (j:=k);(iterate 5 exact rfl);exact a1;(with_reducible exact rfl);omega)|(apply OV_load;exact rfl;exact Lv_ro rfl c1 rfl));exact QA)|(apply GOl_to;(iterate 3 exact rfl);(first|(apply OpTo_store;(iterate 3 exact rfl);exact QR;(iterate 3 exact rfl);skip)))|(apply GO_cond;exact rfl;all_goals (intro hc;try simp only [hcS,reduceCtorEq] at hc;try (exfalso;omega))))
      all_goals first
        | (exfalso;omega)
        | (refine GO_fit QS QT (h3))
    · rw [if_neg k0] at h3
      repeat' (first|apply GO_seq|apply GO_skip|apply GO_inBlock|apply GO_block|apply GO_region|apply GOl_nil|(apply GOl_to;(iterate 3 exact rfl);apply OpTo_alloc (e:=40);exact rfl;intro bX)|(apply GOl_add;(iterate 3 exact rfl);omega;exact rfl;exact rfl)|(apply GOl_sub;(iterate 3 exact rfl);omega;exact rfl;exact rfl)|(apply GOl_pv;(iterate 3 exact rfl))|(apply GOl_load;exact rfl;exact Ld_blk rfl QM rfl;exact rfl;exact rfl)|(apply GOl_ov;exact rfl;exact rfl;(first|(apply OV_idxS (j:=k);(iterate 5 exact rfl);exact a1;(with_reducible exact rfl);omega)|(apply OV_load;exact rfl;exact Lv_ro rfl c1 rfl));exact QA)|(apply GOl_to;(iterate 3 exact rfl);(first|(apply OpTo_store;(iterate 3 exact rfl);exact QR;(iterate 3 exact rfl);skip)))|(apply GO_cond;exact rfl;all_goals (intro hc;try simp only [hcS,reduceCtorEq] at hc;try (exfalso;omega))))
      all_goals first
        | (exfalso;omega)
        | (refine GO_fit QS QT (h3))
  · rw [List.take_of_length_le (by omega)]
    rw [show leadL 0 ⟨0,0,0⟩ d.ls = leadD d from rfl]
    clear ih
    generalize leadD d = z
    repeat' (first|apply GO_seq|apply GO_region|apply GOl_nil|(apply GO_exit;exact rfl)|(apply GOl_pv;(iterate 3 exact rfl))|(apply GOl_load;exact rfl;exact Ld_blk rfl QM rfl;exact rfl;exact rfl)|(apply GOl_to;(iterate 3 exact rfl);(first|(apply OpTo_store;(iterate 3 exact rfl);exact QR;(iterate 3 exact rfl);skip)))|(apply GO_cond;exact rfl;all_goals (intro hc;try simp only [hcS,reduceCtorEq] at hc;try (exfalso;omega))))
    all_goals first
      | (exfalso;omega)
      | (exact GO_retRC1 rfl rfl rfl QM rfl rfl rfl)
end Go.Hw
set_option linter.unusedVariables false
set_option linter.unusedSimpArgs false
set_option maxRecDepth 100000
set_option maxHeartbeats 8000000
namespace Go.Hw
open Go
attribute [local irreducible] GO GOl GDp Val Fn Res CellsAt ValE Blk OwnS MapA OwnPf Has Yl
open Go.Proofs (Tryz.prog)
def winV (d : FDuel) (t : FTie) : Value:=.tuple #[.int .i64 (if FullD d t then (if 0 < leadN d t then d.a else d.b) else 0),.bool (winD d t).isSome]
theorem winV_open {d : FDuel} {t : FTie} (h : ¬ FullD d t) : winV d t = .tuple #[.int .i64 0,.bool false]:=by
  unfold winV;rw [if_neg h,open_win h];rfl
theorem winV_first {d : FDuel} {t : FTie} (h : FullD d t) (k : 0 < leadN d t) : winV d t = .tuple #[.int .i64 d.a,.bool true]:=by
  unfold winV winD;rw [if_pos h,if_pos k,if_pos h,if_pos k];rfl
theorem winV_second {d : FDuel} {t : FTie} (h : FullD d t) (k : ¬ 0 < leadN d t) : winV d t = .tuple #[.int .i64 d.b,.bool (ltI (leadN d t) 0)]:=by
  unfold winV winD;rw [if_pos h,if_neg k,if_pos h,if_neg k,ltI_eq]
  by_cases k2 : leadN d t < 0
  · rw [if_pos k2,decide_eq_true k2];rfl
  · rw [if_neg k2,decide_eq_false k2];rfl
theorem winV_some {d : FDuel} {t : FTie} {w : Int} (h : winD d t = some w) : winV d t = .tuple #[.int .i64 w,.bool true]:=by
  unfold winV
  rw [h]
  unfold winD at h
  by_cases k1 : FullD d t
  · rw [if_pos k1] at h ⊢
    by_cases k2 : 0 < leadN d t
    · rw [if_pos k2] at h ⊢;cases h;rfl
    · rw [if_neg k2] at h ⊢
      by_cases k3 : leadN d t < 0
      · rw [if_pos k3] at h;cases h;rfl
      · rw [if_neg k3] at h;cases h
  · rw [if_neg k1] at h;cases h
theorem winV_none {d : FDuel} {t : FTie} (h : winD d t = none) : ∃ q,winV d t = .tuple #[.int .i64 q,.bool false]:=by
  unfold winV;rw [h];exact ⟨_,rfl⟩
theorem leadN_cases (d : FDuel) (t : FTie) : ((leadD d).goals ≠ 0 → leadN d t = (leadD d).goals) ∧ ((leadD d).goals = 0 → t.legs = 2 → t.away = true → (leadD d).away ≠ 0 → leadN d t = (leadD d).away) ∧
    ((leadD d).goals = 0 → (t.legs ≠ 2 ∨ t.away = false ∨ (leadD d).away = 0) → leadN d t = (leadD d).pens):=by
  unfold leadN
  refine ⟨fun h => if_pos h,fun h1 h2 h3 h4 => ?_,fun h1 h2 => ?_⟩
  · rw [if_neg (fun k => k h1),if_pos ⟨h2,h3,h4⟩]
  · rw [if_neg (fun k => k h1),if_neg]
    rintro ⟨k1,k2,k3⟩
    rcases h2 with w|w|w
    · exact w k1
    · rw [w] at k2;cases k2
    · exact k3 w
theorem winner_c (h : Ro) (s : Sli) (d : FDuel) (t : FTie) (hg : DuG h s d) : Res Tryz.prog 26 #[bduV s d t] h (fun u _ => u = winV d t):=by
  refine Res_intro (args:=[_]) ts_ok Go.Proofs.Tryz.func26 rfl rfl fun w0 X0 => ?_
  have hf:=full_c h s d t hg.at'.len
  have hl:=lead_c h s d t hg
  by_cases hF : FullD d t
  · rw [decide_eq_true hF] at hf
    have hV1:=winV_first hF
    have hV2:=winV_second hF
    obtain ⟨hN1,hN2,hN3⟩:=leadN_cases d t
    generalize leadN d t = N at *
    generalize leadD d = z at *
    generalize winV d t = V at *
    obtain ⟨tl,ta⟩:=t
    dsimp only at hN2 hN3
    clear hg hF
    cases ta
    · have hN3':=fun k => hN3 k (.inr (.inl rfl))
      clear hN2 hN3
      repeat' (first|apply GO_seq|apply GO_skip|apply GO_region|apply GOl_nil|(apply GOl_unwanted;exact rfl;exact rfl)|(apply GOl_pv;(iterate 3 exact rfl))|(apply GOl_load;exact rfl;exact Ld_blk rfl QM rfl;exact rfl;exact rfl)|(apply GOl_to;(iterate 3 exact rfl);(first|(apply OpTo_store;(iterate 3 exact rfl);exact QR;(iterate 3 exact rfl);skip)|(apply OpTo_box;exact rfl;intro b;skip)|(apply OpTo_alloc;exact rfl;intro b;skip)|(apply OpTo_val;exact rfl;exact has50;exact hf;skip)|(apply OpTo_res;exact rfl;exact has59;exact hl;rintro v2 h2 hle2 rfl;skip)))|(apply GO_cond;exact rfl;all_goals (intro hc;try simp only [hcS,reduceCtorEq] at hc;try (exfalso;omega)))|(apply GOl_split;exact rfl;exact rfl;all_goals (intro hc;try simp only [hcS,reduceCtorEq] at hc;try (exfalso;omega))))
      all_goals first
        | (exfalso;simp at hc;done)
        | (exfalso;omega)
        | (refine GO_retR2 rfl rfl rfl rfl ?_;rw [hV1 (by omega)];done)
        | (refine GO_retR2 rfl rfl rfl rfl ?_;rw [hV2 (by omega),show N = z.goals by omega];done)
        | (refine GO_retR2 rfl rfl rfl rfl ?_;rw [hV2 (by omega),show N = z.pens by omega];done)
    · have hN2':=fun k k1 k2 => hN2 k k1 rfl k2
      have hN3' : z.goals = 0 → (tl ≠ 2 ∨ z.away = 0) → N = z.pens:=fun k k1 => hN3 k (k1.imp_right .inr)
      clear hN2 hN3
      repeat' (first|apply GO_seq|apply GO_skip|apply GO_region|apply GOl_nil|(apply GOl_unwanted;exact rfl;exact rfl)|(apply GOl_pv;(iterate 3 exact rfl))|(apply GOl_load;exact rfl;exact Ld_blk rfl QM rfl;exact rfl;exact rfl)|(apply GOl_to;(iterate 3 exact rfl);(first|(apply OpTo_store;(iterate 3 exact rfl);exact QR;(iterate 3 exact rfl);skip)|(apply OpTo_box;exact rfl;intro b;skip)|(apply OpTo_alloc;exact rfl;intro b;skip)|(apply OpTo_val;exact rfl;exact has50;exact hf;skip)|(apply OpTo_res;exact rfl;exact has59;exact hl;rintro v2 h2 hle2 rfl;skip)))|(apply GO_cond;exact rfl;all_goals (intro hc;try simp only [hcS,reduceCtorEq] at hc;try (exfalso;omega)))|(apply GOl_split;exact rfl;exact rfl;all_goals (intro hc;try simp only [hcS,reduceCtorEq] at hc;try (exfalso;omega))))
      all_goals first
        | (exfalso;simp at hc;done)
        | (exfalso;omega)
        | (refine GO_retR2 rfl rfl rfl rfl ?_;rw [hV1 (by omega)];done)
        | (refine GO_retR2 rfl rfl rfl rfl ?_;rw [hV2 (by omega),show N = z.goals by omega];done)
        | (refine GO_retR2 rfl rfl rfl rfl ?_;rw [hV2 (by omega),show N = z.away by omega];done)
        | (refine GO_retR2 rfl rfl rfl rfl ?_;rw [hV2 (by omega),show N = z.pens by omega];done)
  · rw [decide_eq_false hF] at hf
    rw [winV_open hF]
    clear hl
    repeat' (first|apply GO_seq|apply GO_region|apply GOl_nil|(apply GOl_pv;(iterate 3 exact rfl))|(apply GOl_load;exact rfl;exact Ld_blk rfl QM rfl;exact rfl;exact rfl)|(apply GOl_to;(iterate 3 exact rfl);(first|(apply OpTo_box;exact rfl;intro b;skip)|(apply OpTo_val;exact rfl;exact has50;exact hf;skip)))|(apply GO_cond;exact rfl;all_goals (intro hc;try simp only [hcS,reduceCtorEq] at hc;try (exfalso;omega))))
    all_goals first
      | (exfalso;simp at hc;done)
      | (exact GO_retR2 rfl rfl rfl rfl rfl)
end Go.Hw
set_option linter.unusedVariables false
set_option linter.unusedSimpArgs false
set_option maxRecDepth 100000
set_option maxHeartbeats 8000000
namespace Go.Hw
open Go
attribute [local irreducible] GO GOl GDp Val Fn Res CellsAt ValE Blk OwnS MapA OwnPf Has Yl
open Go.Proofs (Tryz.prog)
theorem checkD_210 {d : FDuel} {t : FTie} (h : ¬ DuelOk0 d t) : checkD d t = 210:=by unfold checkD;rw [if_neg h]
theorem checkD_1 {d : FDuel} {t : FTie} (h : DuelOk0 d t) {x : FRes} (hx : x ∈ d.ls) (hr : ¬ ResOk x) : checkD d t = 1:=by unfold checkD;rw [if_pos h,if_neg (fun k => hr (k x hx))]
theorem checkD_leg {d : FDuel} {t : FTie} (h : DuelOk0 d t) (hr : ∀ x ∈ d.ls,ResOk x) {i : Nat} (hi : i < d.ls.length) (hl : ¬ LegOk d i (d.ls.getD i res0)) : checkD d t = 210:=by unfold checkD;rw [if_pos h,if_pos hr,if_neg (fun k => hl (k i hi))]
theorem checkDu_c (h : Ro) (s : Sli) (d : FDuel) (t : FTie) (ha : DuAt h (s,d)) : Res Tryz.prog 11 #[duelV s d,tieV t] h (fun u _ => u = .int .i64 (checkD d t)):=by
  refine Res_intro (args:=[_,_]) ts_ok Go.Proofs.Tryz.func11 rfl rfl fun w0 X0 => ?_
  have hx:=ha.1
  dsimp only at hx
  have hlen:=hx.len
  have hno:=checkD_210 (d:=d) (t:=t)
  have h1x:=fun k x hx hr => checkD_1 (d:=d) (t:=t) k (x:=x) hx hr
  have hlg:=fun k hr i hi hl => checkD_leg (d:=d) (t:=t) k hr (i:=i) hi hl
  have hz:=checkD_zero (d:=d) (t:=t)
  generalize checkD d t = E at *
  have hr:=isRules_c h t
  have hca:=isClub_c h d.a
  have hcb:=isClub_c h d.b
  by_cases h0 : DuelOk0 d t
  · have h0':=h0
    obtain ⟨o1,o2,o3,o4,o5⟩:=h0'
    rw [decide_eq_true o1] at hr
    rw [decide_eq_true o2] at hca
    rw [decide_eq_true o3] at hcb
    have o5' : (s.n : Int) ≤ t.legs:=by omega
    have hn2 : s.n ≤ 2:=by unfold IsTie at o1;omega
    repeat' (first|apply GO_seq|apply GO_skip|apply GO_block|apply GO_region|apply GOl_nil|(apply GOl_to;(iterate 3 exact rfl);apply OpTo_box (e:=24);exact rfl;intro b2)|(apply GOl_to;(iterate 3 exact rfl);apply OpTo_box (e:=26);exact rfl;intro b3)|(apply GOl_pv;(iterate 3 exact rfl))|(apply GOl_load;exact rfl;exact Ld_blk rfl QM rfl;exact rfl;exact rfl)|(apply GOl_to;(iterate 3 exact rfl);(first|(apply OpTo_val;exact rfl;exact has28;exact hr;skip)|(apply OpTo_val;exact rfl;exact has29;(first|exact hca|exact hcb);skip)))|(apply GO_cond;exact rfl;all_goals (intro hc;try simp only [hcS,reduceCtorEq] at hc;try (exfalso;omega)))|(apply GOl_split;exact rfl;exact rfl;all_goals (intro hc;try simp only [hcS,reduceCtorEq] at hc;try (exfalso;omega))))
    all_goals (try (exfalso;simp at hc;done))
    all_goals (try (exfalso;omega))
    refine GO_loopT (X:=Nat × Ro) (fun x => x.1 ≤ s.n ∧ Le h x.2 ∧ ∀ y ∈ d.ls.take x.1,ResOk y) (fun x => s.n - x.1) (fun x => [(46,.int .i64 x.1),(45,.int .i64 s.n),(44,.slice s.A s.n s.c),(2,ptrB b2),(3,ptrB b3)])
      (fun _ => [Blk b2 24 (duelC s d),Blk b3 26 (tieC t)]) (fun x => x.2) (0,h) ⟨by dsimp only;omega,Le.refl _,by simp⟩ QS QT rfl ?_
    rintro ⟨k,h1⟩ ⟨hk,hle,hI⟩ ih
    dsimp only at hk hle hI ih ⊢
    by_cases hkn : k < s.n
    · have a1:=hx.addrD hkn
      have c1 : CellsAt h1 ((addrD s.A).add (k * ty40.size)) (resC (d.ls.getD k res0)):=(hx.cellsD res0 hkn).le hle
      have et:=take7 res0 (xs:=d.ls) hlen hkn
      have hm:=mem7 res0 (show k < d.ls.length by omega)
      generalize d.ls.getD k res0 = x at *
      have hck:=check12_c h1 x
      by_cases hro : ResOk x
      · rw [if_pos hro] at hck
        have h3:=fun h' (hl : Le h1 h') => ih (k + 1,h') ⟨by dsimp only;omega,hle.trans hl,fun y hy => by
          rw [et,List.mem_append,List.mem_singleton] at hy
          rcases hy with hy|rfl
          · exact hI y hy
          · exact hro⟩ (by dsimp only;omega)
        clear ih
        repeat' (first|apply GO_seq|apply GO_skip|apply GO_inBlock|apply GO_block|apply GO_region|apply GOl_nil|(apply GOl_to;(iterate 3 exact rfl);apply OpTo_alloc (e:=40);exact rfl;intro bX)|(apply GOl_add;(iterate 3 exact rfl);omega;exact rfl;exact rfl)|(apply GOl_pv;(iterate 3 exact rfl))|(apply GOl_load;exact rfl;exact Ld_blk rfl QM rfl;exact rfl;exact rfl)|(apply GOl_ov;exact rfl;exact rfl;(first|(apply OV_idxS (j:=k);(iterate 5 exact rfl);exact a1;(with_reducible exact rfl);omega)|(apply OV_load;exact rfl;exact Lv_ro rfl c1 rfl));exact QA)|(apply GOl_to;(iterate 3 exact rfl);(first|(apply OpTo_store;(iterate 3 exact rfl);exact QR;(iterate 3 exact rfl);skip)|(apply OpTo_res;exact rfl;exact has30;exact hck;rintro v2 h2 hle2 rfl;skip)))|(apply GO_cond;exact rfl;all_goals (intro hc;try simp only [hcS,reduceCtorEq] at hc;try (exfalso;omega))))
        all_goals first
          | (exfalso;simp at hc;done)
          | (exfalso;omega)
          | (have h4:=h3 _ hle2
             refine GO_fit QS QT (h4))
      · rw [if_neg hro] at hck
        have hE:=h1x h0 x hm hro
        clear ih hz
        repeat' (first|apply GO_seq|apply GO_skip|apply GO_block|apply GO_region|apply GOl_nil|(apply GOl_to;(iterate 3 exact rfl);apply OpTo_alloc (e:=40);exact rfl;intro bX)|(apply GOl_pv;(iterate 3 exact rfl))|(apply GOl_load;exact rfl;exact Ld_blk rfl QM rfl;exact rfl;exact rfl)|(apply GOl_ov;exact rfl;exact rfl;(first|(apply OV_idxS (j:=k);(iterate 5 exact rfl);exact a1;(with_reducible exact rfl);omega)|(apply OV_load;exact rfl;exact Lv_ro rfl c1 rfl));exact QA)|(apply GOl_to;(iterate 3 exact rfl);(first|(apply OpTo_store;(iterate 3 exact rfl);exact QR;(iterate 3 exact rfl);skip)|(apply OpTo_res;exact rfl;exact has30;exact hck;rintro v2 h2 hle2 rfl;skip)))|(apply GO_cond;exact rfl;all_goals (intro hc;try simp only [hcS,reduceCtorEq] at hc;try (exfalso;omega))))
        all_goals first
          | (exfalso;simp at hc;done)
          | (exfalso;omega)
          | (exact GO_retR1 rfl rfl rfl (by rw [hE]))
    · rw [List.take_of_length_le (by omega)] at hI
      clear ih h1x hno
      have hE210:=hlg h0 hI
      have hE0 : (∀ i,i < s.n → LegOk d i (d.ls.getD i res0)) → E = 0:=fun k => hz.2 ⟨h0,hI,fun i hi => k i (by omega)⟩
      clear hz hlg
      repeat' (first|apply GO_seq|apply GO_block|apply GO_region|apply GOl_nil|(apply GO_exit;exact rfl)|(apply GOl_pv;(iterate 3 exact rfl))|(apply GOl_load;exact rfl;exact Ld_blk rfl QM rfl;exact rfl;exact rfl)|(apply GO_cond;exact rfl;all_goals (intro hc;try simp only [hcS,reduceCtorEq] at hc;try (exfalso;omega))))
      all_goals (try (exfalso;omega))
      refine GO_loopT (X:=Nat) (fun k => k ≤ s.n ∧ ∀ i,i < k → LegOk d i (d.ls.getD i res0)) (fun k => s.n - k) (fun k => [(59,.int .i64 k),(58,.int .i64 s.n),(57,.slice s.A s.n s.c),(2,ptrB b2),(3,ptrB b3)])
        (fun _ => [Blk b2 24 (duelC s d),Blk b3 26 (tieC t)]) (fun _ => h1) 0 ⟨by omega,fun i hi => absurd hi (by omega)⟩ QS QT rfl ?_
      rintro k ⟨hk,hL⟩ ih
      by_cases hkn : k < s.n
      · have a1:=hx.addrD hkn
        have c1 : CellsAt h1 ((addrD s.A).add (k * ty40.size)) (resC (d.ls.getD k res0)):=(hx.cellsD res0 hkn).le hle
        have c0 : CellsAt h1 ((addrD s.A).add (0 * ty40.size)) (resC (d.ls.getD 0 res0)):=(hx.cellsD res0 (show 0 < s.n by omega)).le hle
        have e0 : d.ls.getD 0 res0 = d.ls.headD res0:=by cases d.ls <;> rfl
        have hle1:=leg_nat h1 s d t k
        have h21:=hE210 k (by omega)
        have h3:=fun (hl : LegOk d k (d.ls.getD k res0)) => ih (k + 1) ⟨by omega,fun i hi => by
          by_cases e : i = k
          · rw [e];exact hl
          · exact hL i (by omega)⟩ (by omega)
        rw [e0] at c0
        unfold LegOk at h3 h21
        generalize d.ls.headD res0 = y0 at *
        generalize d.ls.getD k res0 = x at *
        have hsc:=sameCup_c h1 x y0
        generalize legA d k = la at *
        generalize legB d k = lb at *
        clear ih hL hE210
        by_cases hlo : x.g.h = la ∧ x.g.a = lb ∧ 8 ≤ x.g.c ∧ SameCup x y0
        · have h4:=h3 hlo
          obtain ⟨l1,l2,l3,l4⟩:=hlo
          rw [decide_eq_true l4] at hsc
          clear h3 h21
          repeat' (first|apply GO_seq|apply GO_skip|apply GO_inBlock|apply GO_block|apply GO_region|apply GOl_nil|(apply GOl_to;(iterate 3 exact rfl);apply OpTo_alloc (e:=40);exact rfl;intro bX)|(apply GOl_to;(iterate 3 exact rfl);apply OpTo_alloc (e:=38);exact rfl;intro bG)|(apply GOl_add;(iterate 3 exact rfl);omega;exact rfl;exact rfl)|(apply GOl_pv;(iterate 3 exact rfl))|(apply GOl_load;exact rfl;exact Ld_blk rfl QM rfl;exact rfl;exact rfl)|(apply GOl_ov;exact rfl;exact rfl;(first|(apply OV_idxS (j:=k);(iterate 5 exact rfl);exact a1;(with_reducible exact rfl);omega)|(apply OV_load;exact rfl;exact Lv_ro rfl c1 rfl));exact QA)|(apply GOl_to;(iterate 3 exact rfl);(first|(apply OpTo_store;(iterate 3 exact rfl);exact QR;(iterate 3 exact rfl);skip)|(apply OpTo_val;exact rfl;exact has31;exact hle1;skip)))|(apply GO_drawp (n:=15) [0,1,2,3,4,5,6,7,8,9,10,11,12,13,14,15,16,17,18,19,20,21,22,23] [(0,0),(1,0),(2,0),(3,0),(4,0),(5,0),(6,0),(7,0),(8,0),(9,0),(10,0),(11,0),(12,0),(13,0),(14,0),(15,0),(16,0),(17,0),(18,0),(19,0),(20,0),(21,1),(22,0),(23,0)];kernel_rfl)|(apply GP_pv;exact rfl;kernel_rfl;(iterate 3 exact rfl))|(apply GP_loadB;exact rfl;kernel_rfl;(iterate 3 exact rfl);exact QM;exact rfl;exact rfl)|(apply GP_ov;exact rfl;kernel_rfl;exact rfl;exact rfl;(first|(apply OV_idxS (j:=0);(iterate 5 exact rfl);exact a1;omega;omega)|(apply OV_load;exact rfl;exact Lv_ro rfl c0 rfl));exact QA)|(apply GP_real;exact rfl;kernel_rfl;(iterate 3 exact rfl);(first|(apply OpTo_val;exact rfl;exact has32;exact hsc;refine ⟨Le.refl _,QN,?_⟩)))|(apply GP_done;kernel_rfl;exact rfl)|(apply GP_split;(iterate 5 exact rfl);all_goals (intro hc;try simp only [hcS,reduceCtorEq] at hc;try (exfalso;omega)))|(apply GO_cond;exact rfl;all_goals (intro hc;try simp only [hcS,reduceCtorEq] at hc;try (exfalso;omega))))
          all_goals first
            | (exfalso;simp at hc;done)
            | (exfalso;omega)
            | (refine GO_fit QS QT (h4))
        · have hE:=h21 hlo
          clear h3 h21
          repeat' (first|apply GO_seq|apply GO_skip|apply GO_inBlock|apply GO_block|apply GO_region|apply GOl_nil|(apply GOl_to;(iterate 3 exact rfl);apply OpTo_alloc (e:=40);exact rfl;intro bX)|(apply GOl_to;(iterate 3 exact rfl);apply OpTo_alloc (e:=38);exact rfl;intro bG)|(apply GOl_add;(iterate 3 exact rfl);omega;exact rfl;exact rfl)|(apply GOl_pv;(iterate 3 exact rfl))|(apply GOl_load;exact rfl;exact Ld_blk rfl QM rfl;exact rfl;exact rfl)|(apply GOl_ov;exact rfl;exact rfl;(first|(apply OV_idxS (j:=k);(iterate 5 exact rfl);exact a1;(with_reducible exact rfl);omega)|(apply OV_load;exact rfl;exact Lv_ro rfl c1 rfl));exact QA)|(apply GOl_to;(iterate 3 exact rfl);(first|(apply OpTo_store;(iterate 3 exact rfl);exact QR;(iterate 3 exact rfl);skip)|(apply OpTo_val;exact rfl;exact has31;exact hle1;skip)))|(apply GO_drawp (n:=15) [0,1,2,3,4,5,6,7,8,9,10,11,12,13,14,15,16,17,18,19,20,21,22,23] [(0,0),(1,0),(2,0),(3,0),(4,0),(5,0),(6,0),(7,0),(8,0),(9,0),(10,0),(11,0),(12,0),(13,0),(14,0),(15,0),(16,0),(17,0),(18,0),(19,0),(20,0),(21,1),(22,0),(23,0)];kernel_rfl)|(apply GP_un;exact rfl;kernel_rfl;exact rfl;exact rfl)|(apply GP_pv;exact rfl;kernel_rfl;(iterate 3 exact rfl))|(apply GP_loadB;exact rfl;kernel_rfl;(iterate 3 exact rfl);exact QM;exact rfl;exact rfl)|(apply GP_ov;exact rfl;kernel_rfl;exact rfl;exact rfl;(first|(apply OV_idxS (j:=0);(iterate 5 exact rfl);exact a1;omega;omega)|(apply OV_load;exact rfl;exact Lv_ro rfl c0 rfl));exact QA)|(apply GP_real;exact rfl;kernel_rfl;(iterate 3 exact rfl);(first|(apply OpTo_val;exact rfl;exact has32;exact hsc;refine ⟨Le.refl _,QN,?_⟩)))|(apply GP_done;kernel_rfl;exact rfl)|(apply GP_split;(iterate 5 exact rfl);all_goals (intro hc;try simp only [hcS,reduceCtorEq] at hc;try (exfalso;omega)))|(apply GO_cond;exact rfl;all_goals (intro hc;try simp only [hcS,reduceCtorEq] at hc;try (exfalso;omega)))|(apply GP_un1;exact rfl;kernel_rfl;exact rfl;exact rfl))
          all_goals first
            | (exact GO_retR1 rfl rfl rfl (by rw [hE]))
            | (exfalso;apply hlo;refine ⟨?_,?_,?_,?_⟩ <;> first|assumption|omega)
      · have hE:=hE0 fun i hi => hL i (by omega)
        clear ih hE0 hE210
        repeat' (first|apply GO_seq|apply GO_region|apply GOl_nil|(apply GO_exit;exact rfl)|(apply GOl_pv;(iterate 3 exact rfl))|(apply GO_cond;exact rfl;all_goals (intro hc;try simp only [hcS,reduceCtorEq] at hc;try (exfalso;omega))))
        all_goals first
          | (exfalso;omega)
          | (exact GO_retR1 rfl rfl rfl (by rw [hE]))
  · have hE:=hno h0
    clear hno h1x hlg hz
    repeat' (first|apply GO_seq|apply GO_skip|apply GO_block|apply GO_region|apply GOl_nil|(apply GOl_unwanted;exact rfl;exact rfl)|(apply GOl_pv;(iterate 3 exact rfl))|(apply GOl_load;exact rfl;exact Ld_blk rfl QM rfl;exact rfl;exact rfl)|(apply GOl_to;(iterate 3 exact rfl);(first|(apply OpTo_box;exact rfl;intro b;skip)|(apply OpTo_val;exact rfl;exact has28;exact hr;skip)|(apply OpTo_val;exact rfl;exact has29;(first|exact hca|exact hcb);skip)))|(apply GO_cond;exact rfl;all_goals (intro hc;try simp only [hcS,reduceCtorEq] at hc;try (exfalso;omega)))|(apply GOl_split;exact rfl;exact rfl;all_goals (intro hc;try simp only [hcS,reduceCtorEq] at hc;try (exfalso;omega))))
    all_goals first
      | (exact GO_retR1 rfl rfl rfl (by rw [hE]))
      | (exfalso;apply h0;refine ⟨?_,?_,?_,?_,?_⟩ <;> first|assumption|omega)
theorem winnerDu_c (h : Ro) (s : Sli) (d : FDuel) (t : FTie) (ha : DuAt h (s,d)) : Res Tryz.prog 9 #[duelV s d,tieV t] h (fun u _ => u = .tuple #[.int .i64 (winnerE d t).1,.int .i64 (winnerE d t).2]):=by
  refine Res_intro (args:=[_,_]) ts_ok Go.Proofs.Tryz.func9 rfl rfl fun w0 X0 => ?_
  have hck:=checkDu_c h s d t ha
  have hz:=checkD_zero (d:=d) (t:=t)
  unfold winnerE
  by_cases h0 : checkD d t = 0
  · have ho:=hz.1 h0
    have hw:=fun h' (hl : Le h h') => winner_c h' s d t ((DuG.of ha ho).le hl)
    rw [h0] at hck
    rw [if_neg (fun k => k h0)]
    cases hwd : winD d t with
    | none =>
      obtain ⟨q,hq⟩:=winV_none hwd
      rw [hq] at hw
      dsimp only
      clear hz ho
      repeat' (first|apply GO_seq|apply GO_skip|apply GO_region|apply GOl_nil|(apply GOl_pv;(iterate 3 exact rfl))|(apply GOl_load;exact rfl;exact Ld_blk rfl QM rfl;exact rfl;exact rfl)|(apply GOl_to;(iterate 3 exact rfl);(first|(apply OpTo_box;exact rfl;intro b;skip)|(apply OpTo_res;exact rfl;exact has11;exact hck;rintro v2 h2 hle2 rfl;skip)|(apply OpTo_res;exact rfl;exact has26;exact hw _ (by first|exact Le.refl _|assumption|(repeat (first|assumption|(apply Le.trans;assumption))));rintro v3 h3 hle3 rfl;skip)))|(apply GO_cond;exact rfl;all_goals (intro hc;try simp only [hcS,reduceCtorEq] at hc;try (exfalso;omega))))
      all_goals first
        | (exfalso;simp at hc;done)
        | (exfalso;omega)
        | (exact GO_retR2 rfl rfl rfl rfl rfl)
    | some w =>
      rw [winV_some hwd] at hw
      dsimp only
      clear hz ho
      repeat' (first|apply GO_seq|apply GO_skip|apply GO_region|apply GOl_nil|(apply GOl_pv;(iterate 3 exact rfl))|(apply GOl_load;exact rfl;exact Ld_blk rfl QM rfl;exact rfl;exact rfl)|(apply GOl_to;(iterate 3 exact rfl);(first|(apply OpTo_box;exact rfl;intro b;skip)|(apply OpTo_res;exact rfl;exact has11;exact hck;rintro v2 h2 hle2 rfl;skip)|(apply OpTo_res;exact rfl;exact has26;exact hw _ (by first|exact Le.refl _|assumption|(repeat (first|assumption|(apply Le.trans;assumption))));rintro v3 h3 hle3 rfl;skip)))|(apply GO_cond;exact rfl;all_goals (intro hc;try simp only [hcS,reduceCtorEq] at hc;try (exfalso;omega))))
      all_goals first
        | (exfalso;simp at hc;done)
        | (exfalso;omega)
        | (exact GO_retR2 rfl rfl rfl rfl rfl)
  · rw [if_pos h0]
    generalize checkD d t = E at *
    clear hz
    repeat' (first|apply GO_seq|apply GO_region|apply GOl_nil|(apply GOl_pv;(iterate 3 exact rfl))|(apply GOl_load;exact rfl;exact Ld_blk rfl QM rfl;exact rfl;exact rfl)|(apply GOl_to;(iterate 3 exact rfl);(first|(apply OpTo_box;exact rfl;intro b;skip)|(apply OpTo_res;exact rfl;exact has11;exact hck;rintro v2 h2 hle2 rfl;skip)))|(apply GO_cond;exact rfl;all_goals (intro hc;try simp only [hcS,reduceCtorEq] at hc;try (exfalso;omega))))
    all_goals first
      | (exfalso;omega)
      | (exact GO_retR2 rfl rfl rfl rfl rfl)
end Go.Hw

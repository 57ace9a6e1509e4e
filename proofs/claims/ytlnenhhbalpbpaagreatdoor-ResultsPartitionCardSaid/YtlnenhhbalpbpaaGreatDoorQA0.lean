import Derived.Test.YtlnenhhbalpbpaaGreatDoorBA
import Derived.Test.YtlnenhhbalpbpaaGreatDoorGA
import Derived.Test.YtlnenhhbalpbpaaGreatDoorHB
import Derived.Test.YtlnenhhbalpbpaaGreatDoorPA
import Derived.Test.YtlnenhhbalpbpaaGreatDoorPB
import Derived.Test.YtlnenhhbalpbpaaGreatDoorSB
import Derived.Test.YtlnenhhbalpbpaaGreatDoorEB
import Derived.Test.YtlnenhhbalpbpaaGreatDoorFH
set_option linter.unusedVariables false
set_option linter.unusedSimpArgs false
set_option maxRecDepth 100000
set_option maxHeartbeats 8000000
namespace Go.Hw
open Go
attribute [local irreducible] GO GOl GDp Val Fn Res CellsAt ValE Blk OwnS MapA OwnPf Has Yl
open Go.Proofs (Tryz.prog)
theorem sameE12_c (h : Ro) (sa sb : Fsh) (f : Fct) (hx : SlOf encI 1 h sa.cl.A sa.cl.n f.eClubs) (hn : sa.cl.n ≤ 10000000) (hy : SlOf encI 1 h sb.cl.A sb.cl.n f.eClubs) : Val Tryz.prog 24 #[entV7 sa f,entV7 sb f] h (.bool true):=by
  refine Val_intro (args:=[_,_]) ts_ok Go.Proofs.Tryz.func24 rfl rfl fun w0 X0 => ?_
  have hlen:=hx.len
  have hlen2:=hy.len
  have hnm : sb.cl.n = sa.cl.n:=by omega
  repeat' (first|apply GO_seq|apply GO_skip|apply GO_block|apply GO_region|apply GOl_nil|((fail_if_success (have:=b2));apply GOl_to;(iterate 3 exact rfl);apply OpTo_box (e:=42);exact rfl;intro b2)|(apply GOl_to;(iterate 3 exact rfl);apply OpTo_box (e:=42);exact rfl;intro b3)|(apply GOl_unwanted;exact rfl;exact rfl)|(apply GOl_pv;(iterate 3 exact rfl))|(apply GOl_load;exact rfl;exact Ld_blk rfl QM rfl;exact rfl;exact rfl)|(apply GO_cond;exact rfl;all_goals (intro hc;try simp only [hcS,reduceCtorEq] at hc;try (exfalso;omega)))|(apply GOl_split;exact rfl;exact rfl;all_goals (intro hc;try simp only [hcS,reduceCtorEq] at hc;try (exfalso;omega))))
  all_goals (try (exfalso;omega))
  all_goals (try (exfalso;simp at *;done))
  refine GO_loopT (X:=Nat) (fun k => k ≤ sa.cl.n) (fun k => sa.cl.n - k) (fun k => [(5,.int .i64 k),(2,.pointer (some ⟨b2,0,none⟩)),(3,.pointer (some ⟨b3,0,none⟩))]) (fun _ => [Blk b2 42 (partL (entV7 sa f)),Blk b3 42 (partL (entV7 sb f))]) (fun _ => h) 0 (by omega) QS QT rfl ?_
  rintro k hk ih
  by_cases hkn : k < sa.cl.n
  · have a1:=hx.addrD hkn
    have a2:=hy.addrD (show k < sb.cl.n by omega)
    have c1 : CellsAt h ((addrD sa.cl.A).add (k * ty3.size)) (encI (f.eClubs.getD k 0)):=hx.cellsD 0 hkn
    have c2 : CellsAt h ((addrD sb.cl.A).add (k * ty3.size)) (encI (f.eClubs.getD k 0)):=hy.cellsD 0 (show k < sb.cl.n by omega)
    have h9:=ih (k + 1) (by omega) (by omega)
    generalize f.eClubs.getD k 0 = x at *
    clear ih
    repeat' (first|apply GO_seq|apply GO_skip|apply GO_inBlock|apply GO_block|apply GO_region|apply GOl_nil|(apply GOl_add;(iterate 3 exact rfl);omega;exact rfl;exact rfl)|(apply GOl_pv;(iterate 3 exact rfl))|(apply GOl_load;exact rfl;exact Ld_blk rfl QM rfl;exact rfl;exact rfl)|(apply GO_drawp (n:=6) [0,1,2,3,4,5,6,7,8,9,10] [(0,0),(1,0),(2,0),(3,0),(4,0),(5,0),(6,0),(7,0),(8,0),(9,0),(10,0)];kernel_rfl)|(apply GP_pv;exact rfl;kernel_rfl;(iterate 3 exact rfl))|(apply GP_loadB;exact rfl;kernel_rfl;(iterate 3 exact rfl);exact QM;exact rfl;exact rfl)|(apply GP_ov;exact rfl;kernel_rfl;exact rfl;exact rfl;(first|(apply OV_idxS (j:=k) (n:=sa.cl.n);(iterate 5 exact rfl);exact a1;(with_reducible exact rfl);omega)|(apply OV_idxS (j:=k) (n:=sb.cl.n);(iterate 5 exact rfl);exact a2;(with_reducible exact rfl);omega)|(apply OV_load;exact rfl;first|exact Lv_ro rfl c1 rfl|exact Lv_ro rfl c2 rfl));exact QA)|(apply GP_done;kernel_rfl;exact rfl)|(apply GO_cond;exact rfl;all_goals (intro hc;try simp only [hcS,reduceCtorEq] at hc;try (exfalso;omega))))
    all_goals first
      | (exfalso;omega)
      | (exfalso;simp at hc;done)
      | (refine GO_fit QS QT (h9))
  · clear ih
    repeat' (first|apply GO_seq|apply GO_region|apply GOl_nil|(apply GO_exit;exact rfl)|(apply GOl_pv;(iterate 3 exact rfl))|(apply GOl_load;exact rfl;exact Ld_blk rfl QM rfl;exact rfl;exact rfl)|(apply GO_cond;exact rfl;all_goals (intro hc;try simp only [hcS,reduceCtorEq] at hc;try (exfalso;omega))))
    all_goals first
      | (exfalso;omega)
      | (exact GO_retV1 rfl rfl rfl rfl)
end Go.Hw
set_option linter.unusedVariables false
set_option linter.unusedSimpArgs false
set_option maxRecDepth 100000
set_option maxHeartbeats 8000000
namespace Go.Hw
open Go
attribute [local irreducible] GO GOl GDp Val Fn Res CellsAt ValE Blk OwnS MapA OwnPf Has Yl SepA forceL decC memS suspC offL ofGame cardP ofF
open Go.Proofs (Tryz.prog)
theorem gameL12_c (h : Ro) : Val Tryz.prog 22 #[] h (gameV gR):=by
  refine Val_intro (args:=[]) ts_ok Go.Proofs.Tryz.func22 rfl rfl fun w0 X0 => ?_
  repeat' (first|apply GO_seq|apply GO_region|apply GOl_nil|(apply GOl_pv;(iterate 3 exact rfl))|(apply GOl_to;(iterate 3 exact rfl);(first|(apply OpTo_store;(iterate 3 exact rfl);exact QR;(iterate 3 exact rfl);skip)|(apply OpTo_alloc;exact rfl;intro b;skip)))|(apply GO_retC1;(iterate 3 exact rfl);exact QM;exact rfl;exact rfl))
  all_goals rfl
def shS (k : Nat) : Fsh:=⟨sli0,sli0,⟨some ⟨k,0,none⟩,1,1⟩,sli0,sli0,sli0⟩
def fsE (k : Nat) : Fsh:={ fsh0 with cl:=⟨some ⟨k,0,none⟩,2,2⟩ }
theorem sheetL12_c (h : Ro) (r a b : Int) : Res Tryz.prog 21 #[.int .i64 r,.int .i64 a,.int .i64 b] h (fun u h' => ∃ k,u = factV (shS k) (shR r a b) ∧ SlOf encI 1 h' (some ⟨k,0,none⟩) 1 [7]):=by
  refine Res_intro (args:=[_,_,_]) ts_ok Go.Proofs.Tryz.func21 rfl rfl fun w0 X0 => ?_
  repeat' (first|apply GO_seq|apply GO_region|apply GOl_nil|(apply GOl_pv;(iterate 3 exact rfl))|(apply GOl_to;(iterate 3 exact rfl);(first|(apply OpTo_store;(iterate 3 exact rfl);exact QR;(iterate 3 exact rfl);skip)|(apply OpTo_alloc;exact rfl;intro b;skip)|(apply OpTo_val;exact rfl;exact has22;exact gameL12_c _;skip)|(apply OpTo_buildSliceS (enc:=encI) (n:=1) [7];(iterate 3 exact rfl);exact List.cons_ne_nil _ _;(iterate 4 exact rfl);exact (fun _ => rfl);exact rfl;exact rfl;intro b5 h5 hle5 hs5;skip))))
  all_goals first
    | (exact GO_retRC1 rfl rfl rfl QM rfl rfl ⟨_,rfl,hs5⟩)
theorem rulingL12_c (h : Ro) (r : FRul) : Val Tryz.prog 23 #[.int .i64 1,rulV r] h (factV fsh0 (ruR r)):=by
  refine Val_intro (args:=[_,_]) ts_ok Go.Proofs.Tryz.func23 rfl rfl fun w0 X0 => ?_
  repeat' (first|apply GO_seq|apply GO_region|apply GOl_nil|(apply GOl_pv;(iterate 3 exact rfl))|(apply GOl_load;exact rfl;exact Ld_blk rfl QM rfl;exact rfl;exact rfl)|(apply GOl_to;(iterate 3 exact rfl);(first|(apply OpTo_store;(iterate 3 exact rfl);exact QR;(iterate 3 exact rfl);skip)|(apply OpTo_box;exact rfl;intro b;skip)|(apply OpTo_alloc;exact rfl;intro b;skip)))|(apply GO_retC1;(iterate 3 exact rfl);exact QM;exact rfl;exact rfl))
  all_goals rfl
theorem shR_at {h : Ro} {k : Nat} {r a b : Int} (hs : SlOf encI 1 h (some ⟨k,0,none⟩) 1 [7]) : FAt h (shS k) (shR r a b) ∧ FSm (shR r a b) :=
  ⟨⟨⟨SlOf.nil,hs,SlOf.nil,SlOf.nil⟩,SlOf.nil,SlOf.nil,rfl,Nat.le_refl _⟩,⟨Nat.zero_le _,by show ([7] : List Int).length ≤ _;decide,Nat.zero_le _,Nat.zero_le _⟩,Nat.zero_le _,Nat.zero_le _,Nat.zero_le _⟩
theorem ruR_at (h : Ro) (r : FRul) : FAt h fsh0 (ruR r) ∧ FSm (ruR r):=⟨⟨⟨SlOf.nil,SlOf.nil,SlOf.nil,SlOf.nil⟩,SlOf.nil,SlOf.nil,rfl,Nat.le_refl _⟩,⟨Nat.zero_le _,Nat.zero_le _,Nat.zero_le _,Nat.zero_le _⟩,Nat.zero_le _,Nat.zero_le _,Nat.zero_le _⟩
theorem eX1_at {h : Ro} {k : Nat} (hs : SlOf encI 1 h (some ⟨k,0,none⟩) 2 [1,2]) : FAt h (fsE k) eX1 ∧ FSm eX1 :=
  ⟨⟨⟨SlOf.nil,SlOf.nil,SlOf.nil,SlOf.nil⟩,hs,SlOf.nil,rfl,Nat.le_refl _⟩,⟨Nat.zero_le _,Nat.zero_le _,Nat.zero_le _,Nat.zero_le _⟩,by show ([1,2] : List Int).length ≤ _;decide,Nat.zero_le _,by show ([114] : List UInt8).length ≤ _;decide⟩
theorem eX2_at {h : Ro} {k : Nat} (hs : SlOf encI 1 h (some ⟨k,0,none⟩) 2 [3,4]) : FAt h (fsE k) eX2 ∧ FSm eX2 :=
  ⟨⟨⟨SlOf.nil,SlOf.nil,SlOf.nil,SlOf.nil⟩,hs,SlOf.nil,rfl,Nat.le_refl _⟩,⟨Nat.zero_le _,Nat.zero_le _,Nat.zero_le _,Nat.zero_le _⟩,by show ([3,4] : List Int).length ≤ _;decide,Nat.zero_le _,by show ([114] : List UInt8).length ≤ _;decide⟩
def lTwo (k1 k2 : Nat) (a b : Int) : List (Fsh × Fct):=[(shS k1,shR 0 2 1),(shS k2,shR 1 a b)]
theorem lTwo_facts {h : Ro} {A : Option Addr} {k1 k2 : Nat} {a b : Int} (hs : SlOf encF82 82 h A 2 (lTwo k1 k2 a b)) (q1 : SlOf encI 1 h (some ⟨k1,0,none⟩) 1 [7]) (q2 : SlOf encI 1 h (some ⟨k2,0,none⟩) 1 [7]) : FactsAt h A 2 (lTwo k1 k2 a b):=⟨hs,fun p hp => by
  unfold lTwo at hp
  simp only [List.mem_cons,List.not_mem_nil,or_false] at hp
  rcases hp with rfl|rfl
  · exact shR_at q1
  · exact shR_at q2,by omega⟩
theorem lOne_facts {h : Ro} {A : Option Addr} {k1 k2 : Nat} (hs : SlOf encF82 82 h A 1 ((lTwo k1 k2 2 1).take 1)) (q1 : SlOf encI 1 h (some ⟨k1,0,none⟩) 1 [7]) : FactsAt h A 1 [(shS k1,shR 0 2 1)]:=⟨hs,fun p hp => by
  rw [List.mem_singleton] at hp;subst hp
  exact shR_at q1,by omega⟩
def lThr (r : FRul) (k1 k2 : Nat) : List (Fsh × Fct):=[(fsh0,ruR r)] ++ lTwo k1 k2 2 1
theorem lThr_facts {h : Ro} {A : Option Addr} {r : FRul} {k1 k2 : Nat} (hs : SlOf encF82 82 h A 3 (lThr r k1 k2)) (q1 : SlOf encI 1 h (some ⟨k1,0,none⟩) 1 [7]) (q2 : SlOf encI 1 h (some ⟨k2,0,none⟩) 1 [7]) : FactsAt h A 3 (lThr r k1 k2):=⟨hs,fun p hp => by
  unfold lThr lTwo at hp
  simp only [List.cons_append,List.nil_append,List.mem_cons,List.not_mem_nil,or_false] at hp
  rcases hp with rfl|rfl|rfl
  · exact ruR_at h r
  · exact shR_at q1
  · exact shR_at q2,by omega⟩
theorem lEnt_facts {h : Ro} {A : Option Addr} {k : Nat} (hs : SlOf encF82 82 h A 1 [(fsE k,eX1)]) (q : SlOf encI 1 h (some ⟨k,0,none⟩) 2 [1,2]) : FactsAt h A 1 [(fsE k,eX1)]:=⟨hs,fun p hp => by
  rw [List.mem_singleton] at hp;subst hp
  exact eX1_at q,by omega⟩
theorem lEn2_facts {h : Ro} {A : Option Addr} {k1 k2 : Nat} (hs : SlOf encF82 82 h A 2 [(fsE k2,eX2),(fsE k1,eX1)]) (q1 : SlOf encI 1 h (some ⟨k1,0,none⟩) 2 [1,2]) (q2 : SlOf encI 1 h (some ⟨k2,0,none⟩) 2 [3,4]) : FactsAt h A 2 [(fsE k2,eX2),(fsE k1,eX1)]:=⟨hs,fun p hp => by
  simp only [List.mem_cons,List.not_mem_nil,or_false] at hp
  rcases hp with rfl|rfl
  · exact eX2_at q2
  · exact eX1_at q1,by omega⟩
def resX (a b d : Int) (f : Bool) : FRes:={ res0 with g:=gR,hg:=a,ag:=b,day:=d,forf:=f }
theorem resX_ok : ResOk (resX 2 1 10 false):=⟨gR_ok,by unfold Bel;decide,by unfold Bel;decide,by unfold Bel;decide,by unfold Bel;decide,by unfold Bel;decide,by unfold Bel;decide,by unfold Bel;decide,fun _ => rfl,rfl⟩
theorem res0_bad : ¬ ResOk res0:=fun w => w.1.2.2.2.2 rfl
end Go.Hw
set_option linter.unusedVariables false
set_option linter.unusedSimpArgs false
set_option maxRecDepth 100000
set_option maxHeartbeats 8000000
namespace Go.Hw
open Go
attribute [local irreducible] GO GOl GDp Val Fn Res CellsAt ValE Blk OwnS MapA OwnPf Has Yl SepA forceL decC memS suspC offL ofGame cardP ofF
open Go.Proofs (Tryz.prog)
theorem sane12_c (h : Ro) (hG : PowG h) : Val Tryz.prog 8 #[] h (.bool true):=by
  refine Val_intro (args:=[]) ts_ok Go.Proofs.Tryz.func8 rfl rfl fun w0 X0 => ?_
  have oTwo : ∀ h',Le h h' → ∀ A c k1 k2,FactsAt h' A 2 (lTwo k1 k2 2 1) → Res Tryz.prog 10 #[.slice A 2 c,gameV gR] h' (fun u _ => u = .tuple #[resV (resX 2 1 10 false),.bool true]):=fun h' hl A c k1 k2 hf => by
    have:=Of12_c h' (hG.le hl) A 2 c _ hf (by omega) gR
    rw [show fcs (lTwo k1 k2 2 1) = twoR from rfl,ex_twoR] at this
    exact this
  have oOne : ∀ h',Le h h' → ∀ A c k1,FactsAt h' A 1 [(shS k1,shR 0 2 1)] → Res Tryz.prog 10 #[.slice A 1 c,gameV gR] h' (fun u _ => u = .tuple #[resV res0,.bool false]):=fun h' hl A c k1 hf => by
    have:=Of12_c h' (hG.le hl) A 1 c _ hf (by omega) gR
    rw [show fcs [(shS k1,shR 0 2 1)] = [shR 0 2 1] from rfl,ex_one] at this
    exact this
  have oApa : ∀ h',Le h h' → ∀ A c k1 k2,FactsAt h' A 2 (lTwo k1 k2 1 2) → Res Tryz.prog 10 #[.slice A 2 c,gameV gR] h' (fun u _ => u = .tuple #[resV res0,.bool false]):=fun h' hl A c k1 k2 hf => by
    have:=Of12_c h' (hG.le hl) A 2 c _ hf (by omega) gR
    rw [show fcs (lTwo k1 k2 1 2) = [shR 0 2 1,shR 1 1 2] from rfl,ex_apart] at this
    exact this
  have oLos : ∀ h',Le h h' → ∀ A c k1 k2,FactsAt h' A 3 (lThr rF k1 k2) → Res Tryz.prog 10 #[.slice A 3 c,gameV gR] h' (fun u _ => u = .tuple #[resV (resX 0 3 20 true),.bool true]):=fun h' hl A c k1 k2 hf => by
    have:=Of12_c h' (hG.le hl) A 3 c _ hf (by omega) gR
    rw [show fcs (lThr rF k1 k2) = withR rF from rfl,ex_lost] at this
    exact this
  have oAnn : ∀ h',Le h h' → ∀ A c k1 k2,FactsAt h' A 3 (lThr rA k1 k2) → Res Tryz.prog 10 #[.slice A 3 c,gameV gR] h' (fun u _ => u = .tuple #[resV res0,.bool false]):=fun h' hl A c k1 k2 hf => by
    have:=Of12_c h' (hG.le hl) A 3 c _ hf (by omega) gR
    rw [show fcs (lThr rA k1 k2) = withR rA from rfl,ex_annulled] at this
    exact this
  have oUnf : ∀ h',Le h h' → ∀ A c k1 k2,FactsAt h' A 3 (lThr rU k1 k2) → Res Tryz.prog 10 #[.slice A 3 c,gameV gR] h' (fun u _ => u = .tuple #[resV (resX 3 0 10 true),.bool true]):=fun h' hl A c k1 k2 hf => by
    have:=Of12_c h' (hG.le hl) A 3 c _ hf (by omega) gR
    rw [show fcs (lThr rU k1 k2) = withR rU from rfl,ex_unfit] at this
    exact this
  have pOne : ∀ h',Le h h' → ∀ A c k,FactsAt h' A 1 [(fsE k,eX1)] → Res Tryz.prog 19 #[.slice A 1 c,.int .i64 0,.int .i64 0] h' (fun u _ => ∃ A' c',u = .tuple #[.slice A' 2 c',.int .i64 0]):=fun h' hl A c k hf =>
    (Open_c h' (hG.le hl) A 1 c _ hf (by omega) 0 0).mono fun u h2 _ ⟨A',c',e,_⟩ => by
      rw [show fcs [(fsE k,eX1)] = [eX1] from rfl,open_one.1,open_one.2] at e
      exact ⟨A',c',e⟩
  have pN0 : ∀ h',Le h h' → Res Tryz.prog 19 #[.slice none 0 0,.int .i64 0,.int .i64 0] h' (fun u _ => ∃ A' c',u = .tuple #[.slice A' 0 c',.int .i64 190]):=fun h' hl =>
    (Open_c h' (hG.le hl) none 0 0 [] (FactsAt.nil h') (by omega) 0 0).mono fun u h2 _ ⟨A',c',e,_⟩ => by
      rw [show fcs [] = [] from rfl,open_nil0.1,open_nil0.2] at e
      exact ⟨A',c',e⟩
  have pN8 : ∀ h',Le h h' → Res Tryz.prog 19 #[.slice none 0 0,.int .i64 0,.int .i64 8] h' (fun u _ => ∃ A' c',u = .tuple #[.slice A' 0 c',.int .i64 1]):=fun h' hl =>
    (Open_c h' (hG.le hl) none 0 0 [] (FactsAt.nil h') (by omega) 0 8).mono fun u h2 _ ⟨A',c',e,_⟩ => by
      rw [show fcs [] = [] from rfl,open_nil8.1,open_nil8.2] at e
      exact ⟨A',c',e⟩
  have pEnt : ∀ h',Le h h' → ∀ A c k1 k2,FactsAt h' A 2 [(fsE k2,eX2),(fsE k1,eX1)] → Res Tryz.prog 20 #[.slice A 2 c,.int .i64 0,.int .i64 0] h' (fun u h2 => ∃ zs,u = .tuple #[entV7 zs eX2,.bool true] ∧ SlOf encI 1 h2 zs.cl.A zs.cl.n eX2.eClubs ∧ zs.cl.n ≤ 10000000):=fun h' hl A c k1 k2 hf =>
    (EntrantsS_c h' (hG.le hl) A 2 c _ hf 0 0 (e:=eX2) (by rw [show fcs [(fsE k2,eX2),(fsE k1,eX1)] = [eX2,eX1] from rfl];exact ent_two)).mono fun u h2 hle ⟨zs,e,hm⟩ => by
      have hcl : SlOf encI 1 h' zs.cl.A zs.cl.n eX2.eClubs:=(hf.fat _ hm).1.cl
      have hcn : 2 = zs.cl.n:=hcl.len
      exact ⟨zs,e,hcl.le hle,by omega⟩
  have chk:=fun h' => check12_c h' (resX 2 1 10 false)
  rw [if_pos resX_ok] at chk
  have ch0:=fun h' => check12_c h' res0
  rw [if_neg res0_bad] at ch0
  repeat' (first|apply GO_seq|apply GO_skip|apply GO_region|apply GOl_nil|(apply GOl_pv;(iterate 3 exact rfl))|(apply GOl_load;exact rfl;exact Ld_blk rfl QM rfl;exact rfl;exact rfl)|(apply GOl_to;(iterate 3 exact rfl);(first|(apply OpTo_store;(iterate 3 exact rfl);exact QR;(iterate 3 exact rfl);skip)|(apply OpTo_alloc;exact rfl;intro b;skip)|(apply OpTo_val;exact rfl;exact has22;exact gameL12_c _;skip)|((fail_if_success (have:=k1));apply OpTo_res;exact rfl;exact has21;exact sheetL12_c _ 0 2 1;rintro v1 h1 hle1 ⟨k1,rfl,hs1⟩;skip)|((fail_if_success (have:=k2));apply OpTo_res;exact rfl;exact has21;exact sheetL12_c _ 1 2 1;rintro v2 h2 hle2 ⟨k2,rfl,hs2⟩;skip)|((fail_if_success (have:=k3));apply OpTo_res;exact rfl;exact has21;exact sheetL12_c _ 0 2 1;rintro v3 h3 hle3 ⟨k3,rfl,hs3⟩;skip)|((fail_if_success (have:=k4));apply OpTo_res;exact rfl;exact has21;exact sheetL12_c _ 1 1 2;rintro v4 h4 hle4 ⟨k4,rfl,hs4⟩;skip)|(apply OpTo_buildSliceS (enc:=encF82) (n:=2) (lTwo k1 k2 2 1);(iterate 3 exact rfl);exact List.cons_ne_nil _ _;(iterate 4 exact rfl);exact encF82_len;exact rfl;exact rfl;intro bT hT hleT hsT;(have hfT:=lTwo_facts hsT (hs1.le (by first|exact Le.refl _|assumption|(repeat (first|assumption|(apply Le.trans;assumption))))) (hs2.le (by first|exact Le.refl _|assumption|(repeat (first|assumption|(apply Le.trans;assumption))))));skip)|(apply OpTo_buildSliceS (enc:=encF82) (n:=2) (lTwo k3 k4 1 2);(iterate 3 exact rfl);exact List.cons_ne_nil _ _;(iterate 4 exact rfl);exact encF82_len;exact rfl;exact rfl;intro bP hP hleP hsP;(have hfP:=lTwo_facts hsP (hs3.le (by first|exact Le.refl _|assumption|(repeat (first|assumption|(apply Le.trans;assumption))))) (hs4.le (by first|exact Le.refl _|assumption|(repeat (first|assumption|(apply Le.trans;assumption))))));skip)|(apply OpTo_val;exact rfl;exact has23;(first|exact rulingL12_c _ rF|exact rulingL12_c _ rA|exact rulingL12_c _ rU);skip)|(apply OpTo_buildSliceS (enc:=encF82) (n:=1) [(fsh0,ruR rF)];(iterate 3 exact rfl);exact List.cons_ne_nil _ _;(iterate 4 exact rfl);exact encF82_len;exact rfl;exact rfl;intro bF hF hleF hsF;skip)|(apply OpTo_buildSliceS (enc:=encF82) (n:=1) [(fsh0,ruR rA)];(iterate 3 exact rfl);exact List.cons_ne_nil _ _;(iterate 4 exact rfl);exact encF82_len;exact rfl;exact rfl;intro bA hA hleA hsA;skip)|(apply OpTo_buildSliceS (enc:=encF82) (n:=1) [(fsh0,ruR rU)];(iterate 3 exact rfl);exact List.cons_ne_nil _ _;(iterate 4 exact rfl);exact encF82_len;exact rfl;exact rfl;intro bU hU hleU hsU;skip)|(apply OpTo_appendFR (enc:=encF82) (n:=1) (m:=2) (cx:=1) (c:=2) (xs:=[(fsh0,ruR rU)]) (ys:=lTwo k1 k2 2 1);(iterate 7 exact rfl);exact hsU.le (by first|exact Le.refl _|assumption|(repeat (first|assumption|(apply Le.trans;assumption))));exact hsT.le (by first|exact Le.refl _|assumption|(repeat (first|assumption|(apply Le.trans;assumption))));exact rfl;omega;exact encF82_len;omega;exact rfl;intro AU cU hU2 hleU2 hncU hsU2;(have hfU:=lThr_facts (r:=rU) hsU2 (hs1.le (by first|exact Le.refl _|assumption|(repeat (first|assumption|(apply Le.trans;assumption))))) (hs2.le (by first|exact Le.refl _|assumption|(repeat (first|assumption|(apply Le.trans;assumption))))));skip)|(apply OpTo_appendFR (enc:=encF82) (n:=1) (m:=2) (cx:=1) (c:=2) (xs:=[(fsh0,ruR rA)]) (ys:=lTwo k1 k2 2 1);(iterate 7 exact rfl);exact hsA.le (by first|exact Le.refl _|assumption|(repeat (first|assumption|(apply Le.trans;assumption))));exact hsT.le (by first|exact Le.refl _|assumption|(repeat (first|assumption|(apply Le.trans;assumption))));exact rfl;omega;exact encF82_len;omega;exact rfl;intro AA cA hA2 hleA2 hncA hsA2;(have hfA:=lThr_facts (r:=rA) hsA2 (hs1.le (by first|exact Le.refl _|assumption|(repeat (first|assumption|(apply Le.trans;assumption))))) (hs2.le (by first|exact Le.refl _|assumption|(repeat (first|assumption|(apply Le.trans;assumption))))));skip)|(apply OpTo_appendFR (enc:=encF82) (n:=1) (m:=2) (cx:=1) (c:=2) (xs:=[(fsh0,ruR rF)]) (ys:=lTwo k1 k2 2 1);(iterate 7 exact rfl);exact hsF.le (by first|exact Le.refl _|assumption|(repeat (first|assumption|(apply Le.trans;assumption))));exact hsT.le (by first|exact Le.refl _|assumption|(repeat (first|assumption|(apply Le.trans;assumption))));exact rfl;omega;exact encF82_len;omega;exact rfl;intro AF cF hF2 hleF2 hncF hsF2;(have hfF:=lThr_facts (r:=rF) hsF2 (hs1.le (by first|exact Le.refl _|assumption|(repeat (first|assumption|(apply Le.trans;assumption))))) (hs2.le (by first|exact Le.refl _|assumption|(repeat (first|assumption|(apply Le.trans;assumption))))));skip)|((fail_if_success (have:=w1));apply OpTo_res;exact rfl;exact has10;exact oTwo _ (by first|exact Le.refl _|assumption|(repeat (first|assumption|(apply Le.trans;assumption)))) _ _ k1 k2 (hfT.le (by first|exact Le.refl _|assumption|(repeat (first|assumption|(apply Le.trans;assumption)))));rintro w1 g1 hleg1 rfl;skip)|((fail_if_success (have:=w3));apply OpTo_res;exact rfl;exact has10;exact oApa _ (by first|exact Le.refl _|assumption|(repeat (first|assumption|(apply Le.trans;assumption)))) _ _ k3 k4 (hfP.le (by first|exact Le.refl _|assumption|(repeat (first|assumption|(apply Le.trans;assumption)))));rintro w3 g3 hleg3 rfl;skip)|((fail_if_success (have:=w4));apply OpTo_res;exact rfl;exact has10;exact oLos _ (by first|exact Le.refl _|assumption|(repeat (first|assumption|(apply Le.trans;assumption)))) _ _ k1 k2 (hfF.le (by first|exact Le.refl _|assumption|(repeat (first|assumption|(apply Le.trans;assumption)))));rintro w4 g4 hleg4 rfl;skip)|((fail_if_success (have:=w5));apply OpTo_res;exact rfl;exact has10;exact oAnn _ (by first|exact Le.refl _|assumption|(repeat (first|assumption|(apply Le.trans;assumption)))) _ _ k1 k2 (hfA.le (by first|exact Le.refl _|assumption|(repeat (first|assumption|(apply Le.trans;assumption)))));rintro w5 g5 hleg5 rfl;skip)|((fail_if_success (have:=w6));apply OpTo_res;exact rfl;exact has10;exact oUnf _ (by first|exact Le.refl _|assumption|(repeat (first|assumption|(apply Le.trans;assumption)))) _ _ k1 k2 (hfU.le (by first|exact Le.refl _|assumption|(repeat (first|assumption|(apply Le.trans;assumption)))));rintro w6 g6 hleg6 rfl;skip)|(apply OpTo_buildSliceS (enc:=encI) (n:=2) [1,2];(iterate 3 exact rfl);exact List.cons_ne_nil _ _;(iterate 4 exact rfl);exact (fun _ => rfl);exact rfl;exact rfl;intro bE hE hleE hsE;skip)|(apply OpTo_buildSliceS (enc:=encI) (n:=2) [3,4];(iterate 3 exact rfl);exact List.cons_ne_nil _ _;(iterate 4 exact rfl);exact (fun _ => rfl);exact rfl;exact rfl;intro bL hL hleL hsL;skip)|(apply OpTo_buildSliceS (enc:=encF82) (n:=1) [(fsE bE,eX1)];(iterate 3 exact rfl);exact List.cons_ne_nil _ _;(iterate 4 exact rfl);exact encF82_len;exact rfl;exact rfl;intro bO hO hleO hsO;(have hfO:=lEnt_facts hsO (hsE.le (by first|exact Le.refl _|assumption|(repeat (first|assumption|(apply Le.trans;assumption))))));skip)|(apply OpTo_buildSliceS (enc:=encF82) (n:=2) [(fsE bL,eX2),(fsE bE,eX1)];(iterate 3 exact rfl);exact List.cons_ne_nil _ _;(iterate 4 exact rfl);exact encF82_len;exact rfl;exact rfl;intro bQ hQ hleQ hsQ;(have hfQ:=lEn2_facts hsQ (hsE.le (by first|exact Le.refl _|assumption|(repeat (first|assumption|(apply Le.trans;assumption))))) (hsL.le (by first|exact Le.refl _|assumption|(repeat (first|assumption|(apply Le.trans;assumption))))));skip)|(apply OpTo_res;exact rfl;exact has19;(first|exact pN0 _ (by first|exact Le.refl _|assumption|(repeat (first|assumption|(apply Le.trans;assumption))))|exact pN8 _ (by first|exact Le.refl _|assumption|(repeat (first|assumption|(apply Le.trans;assumption))))|exact pOne _ (by first|exact Le.refl _|assumption|(repeat (first|assumption|(apply Le.trans;assumption)))) _ _ bE (hfO.le (by first|exact Le.refl _|assumption|(repeat (first|assumption|(apply Le.trans;assumption))))));rintro x1 f1 hlef1 ⟨B1,d1,rfl⟩;skip)|(apply OpTo_res;exact rfl;exact has20;exact pEnt _ (by first|exact Le.refl _|assumption|(repeat (first|assumption|(apply Le.trans;assumption)))) _ _ bE bL (hfQ.le (by first|exact Le.refl _|assumption|(repeat (first|assumption|(apply Le.trans;assumption)))));rintro x2 f2 hlef2 ⟨zs,rfl,hzc,hzn⟩;skip)|(apply OpTo_val;exact rfl;exact has24;exact sameE12_c _ zs (fsE bL) eX2 (hzc.le (by first|exact Le.refl _|assumption|(repeat (first|assumption|(apply Le.trans;assumption))))) hzn (hsL.le (by first|exact Le.refl _|assumption|(repeat (first|assumption|(apply Le.trans;assumption)))));skip)|((fail_if_success (have:=y1));apply OpTo_res;exact rfl;exact has12;exact chk _;rintro y1 e1 hlee1 rfl;skip)|(apply OpTo_res;exact rfl;exact has12;exact ch0 _;rintro y2 e2 hlee2 rfl;skip)))|(apply GO_drawp (n:=3) [0,1,2,3,4,5,7,8,6,9] [(0,0),(1,0),(2,2),(14,7),(3,2),(6,7),(4,0),(5,0),(6,0),(7,1),(8,1),(9,0),(3,1),(4,0),(5,0),(6,0),(8,1),(9,0),(2,1),(3,1),(4,0),(5,0),(6,0),(8,1),(9,0)];kernel_rfl)|(apply GO_drawp (n:=8) [0,1,2,3,4,5,6,7,8,9,10,11,12,13,14,15,16,17,18,19,20,21,22,23,24,25,26,27,28,29,30,31,32,33,34,35,36] [(0,0),(1,1),(2,0),(3,0),(4,0),(5,0),(6,0),(7,0),(8,0),(9,0),(10,0),(11,0),(12,0),(13,0),(14,0),(15,0),(16,1),(17,0),(18,0),(19,0),(20,0),(21,0),(22,0),(23,0),(24,0),(25,0),(26,0),(27,0),(28,0),(29,1),(30,0),(31,0),(32,0),(33,0),(34,0),(35,0),(36,0)];kernel_rfl)|(apply GP_pv;exact rfl;kernel_rfl;(iterate 3 exact rfl))|(apply GP_loadB;exact rfl;kernel_rfl;(iterate 3 exact rfl);exact QM;exact rfl;exact rfl)|(apply GP_ov;exact rfl;kernel_rfl;exact rfl;exact rfl;(first|(apply OV_sliceHi (hi:=1) (n:=2) (c:=2);(iterate 6 exact rfl);omega;omega)|(apply OV_neqR;(iterate 3 exact rfl);kernel_rfl;kernel_rfl));exact QA)|(apply GP_real;exact rfl;kernel_rfl;(iterate 3 exact rfl);(first|(apply OpTo_store;(iterate 3 exact rfl);exact QR;(iterate 3 exact rfl);refine ⟨Le.refl _,QN,?_⟩)|(apply OpTo_alloc;exact rfl;intro b;refine ⟨Le.refl _,QN,?_⟩)|(apply OpTo_val;exact rfl;exact has22;exact gameL12_c _;refine ⟨Le.refl _,QN,?_⟩)|((fail_if_success (have:=w2));apply OpTo_res;exact rfl;exact has10;exact oOne _ (by first|exact Le.refl _|assumption|(repeat (first|assumption|(apply Le.trans;assumption)))) _ _ k1 (lOne_facts (k2:=k2) ((hfT.row.high (hi:=1) (c:=2) (by omega) (by omega)).le (by first|exact Le.refl _|assumption|(repeat (first|assumption|(apply Le.trans;assumption))))) (hs1.le (by first|exact Le.refl _|assumption|(repeat (first|assumption|(apply Le.trans;assumption))))));rintro w2 g2 hleg2 rfl;refine ⟨hleg2,QN,?_⟩)))|(apply GP_two;kernel_rfl;exact rfl;exact rfl)|(apply RealP_intro;(iterate 4 exact rfl);(first|(apply OpTo_alloc;exact rfl;intro b;refine ⟨Le.refl _,QN,?_⟩)|(apply OpTo_val;exact rfl;exact has22;exact gameL12_c _;refine ⟨Le.refl _,QN,?_⟩)|((fail_if_success (have:=w2));apply OpTo_res;exact rfl;exact has10;exact oOne _ (by first|exact Le.refl _|assumption|(repeat (first|assumption|(apply Le.trans;assumption)))) _ _ k1 (lOne_facts (k2:=k2) ((hfT.row.high (hi:=1) (c:=2) (by omega) (by omega)).le (by first|exact Le.refl _|assumption|(repeat (first|assumption|(apply Le.trans;assumption))))) (hs1.le (by first|exact Le.refl _|assumption|(repeat (first|assumption|(apply Le.trans;assumption))))));rintro w2 g2 hleg2 rfl;refine ⟨hleg2,QN,?_⟩)))|(apply GP_done;kernel_rfl;exact rfl)|(apply GO_cond;exact rfl;all_goals (intro hc;try simp only [hcS,reduceCtorEq] at hc;try (exfalso;omega)))|(apply GOl_split;exact rfl;exact rfl;all_goals (intro hc;try simp only [hcS,reduceCtorEq] at hc;try (exfalso;omega))))
  all_goals first
    | (exfalso;simp at hc;done)
    | (exact GO_retV1 rfl rfl rfl rfl)
    | (exact GO_retV1 rfl rfl rfl (by simp [eqI_eq];done))
end Go.Hw

import Derived.Test.YtphlhpbmkejbaabGreatDoorFA
import Derived.Test.YtphlhpbmkejbaabGreatDoorHC
import Derived.Test.YtphlhpbmkejbaabGreatDoorQT
set_option linter.unusedSimpArgs false
set_option linter.unusedVariables false
namespace Go.Hw
open Go
structure Sli where
  A : Option Addr
  n : Nat
  c : Nat
def sli0 : Sli:=⟨none,0,0⟩
structure Fsh where
  cl : Sli
  hs : Sli
  asn : Sli
  hc : Sli
  ac : Sli
  lo : Sli
def fsh0 : Fsh:=⟨sli0,sli0,sli0,sli0,sli0,sli0⟩
def encC (c : FCard) : List Value:=[.int .i64 c.p,.bool c.red]
def gameC (g : FGame) : List Value:=[.int .i64 g.s,.int .i64 g.c,.int .i64 g.h,.int .i64 g.a]
def sheetC (s : Fsh) (x : FSheet) : List Value:=[.int .i64 x.g.s,.int .i64 x.g.c,.int .i64 x.g.h,.int .i64 x.g.a,.int .i64 x.ref,.int .i64 x.hg,.int .i64 x.ag,.int .i64 x.hp,.int .i64 x.ap,
  .slice s.hs.A s.hs.n s.hs.c,.slice s.asn.A s.asn.n s.asn.c,.slice s.hc.A s.hc.n s.hc.c,.slice s.ac.A s.ac.n s.ac.c]
def rulC (r : FRul) : List Value:=[.int .i64 r.case,.int .i64 r.inst,.int .i64 r.kind,.int .i64 r.g.s,.int .i64 r.g.c,.int .i64 r.g.h,.int .i64 r.g.a,.int .i64 r.club,.int .i64 r.player,
  .int .i64 r.season,.int .i64 r.comp,.int .i64 r.points,.int .i64 r.amount,.int .i64 r.hg,.int .i64 r.ag,.int .i64 r.lo,.int .i64 r.hi]
def vB (l : List UInt8) (i : Nat) : Value:=.int .u8 ((l.getD i 0).toNat : Int)
def voidC (v : List UInt8) : List Value:=[vB v 0,vB v 1,vB v 2,vB v 3,vB v 4,vB v 5,vB v 6,vB v 7,vB v 8,vB v 9,vB v 10,vB v 11,vB v 12,vB v 13,vB v 14,vB v 15,
  vB v 16,vB v 17,vB v 18,vB v 19,vB v 20,vB v 21,vB v 22,vB v 23,vB v 24,vB v 25,vB v 26,vB v 27,vB v 28,vB v 29,vB v 30,vB v 31]
def factC (s : Fsh) (x : Fct) : List Value:=[.int .i64 x.kind,.int .i64 x.day,.int .i64 x.known,.int .i64 x.eS,.int .i64 x.eC,.slice s.cl.A s.cl.n s.cl.c,.string (str x.eRules),
  .int .i64 x.fg.s,.int .i64 x.fg.c,.int .i64 x.fg.h,.int .i64 x.fg.a,.int .i64 x.venue,
  .int .i64 x.sh.g.s,.int .i64 x.sh.g.c,.int .i64 x.sh.g.h,.int .i64 x.sh.g.a,.int .i64 x.sh.ref,.int .i64 x.sh.hg,.int .i64 x.sh.ag,.int .i64 x.sh.hp,.int .i64 x.sh.ap,
  .slice s.hs.A s.hs.n s.hs.c,.slice s.asn.A s.asn.n s.asn.c,.slice s.hc.A s.hc.n s.hc.c,.slice s.ac.A s.ac.n s.ac.c,
  .int .i64 x.ru.case,.int .i64 x.ru.inst,.int .i64 x.ru.kind,.int .i64 x.ru.g.s,.int .i64 x.ru.g.c,.int .i64 x.ru.g.h,.int .i64 x.ru.g.a,.int .i64 x.ru.club,.int .i64 x.ru.player,
  .int .i64 x.ru.season,.int .i64 x.ru.comp,.int .i64 x.ru.points,.int .i64 x.ru.amount,.int .i64 x.ru.hg,.int .i64 x.ru.ag,.int .i64 x.ru.lo,.int .i64 x.ru.hi,
  .int .i64 x.aCase,.int .i64 x.aInst,.bool x.aSusp,.int .i64 x.mP,.int .i64 x.mTo,.int .i64 x.lS,.int .i64 x.lC,.slice s.lo.A s.lo.n s.lo.c,
  vB x.void 0,vB x.void 1,vB x.void 2,vB x.void 3,vB x.void 4,vB x.void 5,vB x.void 6,vB x.void 7,vB x.void 8,vB x.void 9,vB x.void 10,vB x.void 11,vB x.void 12,vB x.void 13,vB x.void 14,vB x.void 15,
  vB x.void 16,vB x.void 17,vB x.void 18,vB x.void 19,vB x.void 20,vB x.void 21,vB x.void 22,vB x.void 23,vB x.void 24,vB x.void 25,vB x.void 26,vB x.void 27,vB x.void 28,vB x.void 29,vB x.void 30,vB x.void 31]
def gameV (g : FGame) : Value:=.agg (gameC g).toArray
def sheetV (s : Fsh) (x : FSheet) : Value:=.agg (sheetC s x).toArray
def rulV (r : FRul) : Value:=.agg (rulC r).toArray
def factV (s : Fsh) (x : Fct) : Value:=.agg (factC s x).toArray
def entV7 (s : Fsh) (x : Fct) : Value:=.agg [.int .i64 x.eS,.int .i64 x.eC,.slice s.cl.A s.cl.n s.cl.c,.string (str x.eRules)].toArray
def lotV (s : Fsh) (x : Fct) : Value:=.agg [.int .i64 x.lS,.int .i64 x.lC,.slice s.lo.A s.lo.n s.lo.c].toArray
structure ShAt (h : Ro) (s : Fsh) (x : FSheet) : Prop where
  hs : SlOf encI 1 h s.hs.A s.hs.n x.hs
  asn : SlOf encI 1 h s.asn.A s.asn.n x.asn
  hc : SlOf encC 2 h s.hc.A s.hc.n x.hc
  ac : SlOf encC 2 h s.ac.A s.ac.n x.ac
structure FAt (h : Ro) (s : Fsh) (x : Fct) : Prop where
  sh : ShAt h s x.sh
  cl : SlOf encI 1 h s.cl.A s.cl.n x.eClubs
  lo : SlOf encI 1 h s.lo.A s.lo.n x.lO
  void : x.void.length = 32
  lc : s.lo.n ≤ s.lo.c
theorem ShAt.le {h h' : Ro} {s : Fsh} {x : FSheet} (a : ShAt h s x) (hl : Le h h') : ShAt h' s x:=⟨a.hs.le hl,a.asn.le hl,a.hc.le hl,a.ac.le hl⟩
theorem FAt.le {h h' : Ro} {s : Fsh} {x : Fct} (a : FAt h s x) (hl : Le h h') : FAt h' s x:=⟨a.sh.le hl,a.cl.le hl,a.lo.le hl,a.void,a.lc⟩
def ShSm (x : FSheet) : Prop:=x.hs.length ≤ 9223372036854775807 ∧ x.asn.length ≤ 9223372036854775807 ∧ x.hc.length ≤ 9223372036854775807 ∧ x.ac.length ≤ 9223372036854775807
def FSm (x : Fct) : Prop:=ShSm x.sh ∧ x.eClubs.length ≤ 9223372036854775807 ∧ x.lO.length ≤ 9223372036854775807 ∧ x.eRules.length ≤ 9223372036854775807
def FSm1 (x : Fct) : Prop:=(x.sh.hs.length ≤ 100 ∧ x.sh.asn.length ≤ 100 ∧ x.sh.hc.length ≤ 100 ∧ x.sh.ac.length ≤ 100) ∧ x.eClubs.length ≤ 100 ∧ x.lO.length ≤ 100 ∧ x.eRules.length ≤ 100
theorem FAt.small1 {h : Ro} {s : Fsh} {x : Fct} (a : FAt h s x) (b : FSm1 x) : s.hs.n ≤ 100 ∧ s.asn.n ≤ 100 ∧ s.hc.n ≤ 100 ∧ s.ac.n ≤ 100 ∧ s.cl.n ≤ 100 ∧ s.lo.n ≤ 100:=by
  have h1:=a.sh.hs.len;have h2:=a.sh.asn.len;have h3:=a.sh.hc.len;have h4:=a.sh.ac.len;have h5:=a.cl.len;have h6:=a.lo.len
  obtain ⟨⟨b1,b2,b3,b4⟩,b5,b6,b7⟩:=b
  omega
theorem NameOk.len {s : List UInt8} (a : NameOk s) : s.length ≤ 24:=a.2.1
theorem FctOk.sm1 {f : Fct} (a : FctOk f) : FSm1 f:=by
  obtain ⟨-,-,hc,ho⟩:=a
  unfold ContOk at hc
  unfold onlyF at ho
  unfold FSm1
  have hz : ∀ x : Fct,f = x → x.sh = f.sh ∧ x.eClubs = f.eClubs ∧ x.lO = f.lO ∧ x.eRules = f.eRules:=fun x e => by rw [e];exact ⟨rfl,rfl,rfl,rfl⟩
  by_cases h1 : f.kind = 1
  · rw [if_pos h1] at hc
    simp only [if_pos h1] at ho
    obtain ⟨q1,q2,q3,q4⟩:=hz _ ho.symm
    rw [← q1,← q3]
    have hr : f.eRules.length ≤ 100:=by
      have:=hc.2.2.2.2
      split at this
      · have:=this.len;omega
      · rw [this];simp
    have:=hc.2.2.1.2.1
    exact ⟨by simp [fct0,sheet0],by omega,by simp [fct0],hr⟩
  rw [if_neg h1] at hc
  simp only [if_neg h1] at ho
  by_cases h2 : f.kind = 2
  · simp only [if_pos h2] at ho
    obtain ⟨q1,q2,q3,q4⟩:=hz _ ho.symm
    rw [← q1,← q2,← q3,← q4]
    simp [fct0,sheet0]
  rw [if_neg h2] at hc
  simp only [if_neg h2] at ho
  by_cases h3 : f.kind = 3
  · rw [if_pos h3] at hc
    simp only [if_pos h3] at ho
    obtain ⟨q1,q2,q3,q4⟩:=hz _ ho.symm
    rw [← q2,← q3,← q4]
    obtain ⟨-,-,-,-,-,a1,a2,a3,a4,-⟩:=hc
    have b1:=a1.1
    have b2:=a2.1
    have b3:=a3.1
    have b4:=a4.1
    exact ⟨⟨by omega,by omega,by omega,by omega⟩,by simp [fct0],by simp [fct0],by simp [fct0]⟩
  rw [if_neg h3] at hc
  simp only [if_neg h3] at ho
  by_cases h4 : f.kind = 4
  · simp only [if_pos h4] at ho
    obtain ⟨q1,q2,q3,q4⟩:=hz _ ho.symm
    rw [← q1,← q2,← q3,← q4]
    simp [fct0,sheet0]
  rw [if_neg h4] at hc
  simp only [if_neg h4] at ho
  by_cases h5 : f.kind = 5
  · simp only [if_pos h5] at ho
    obtain ⟨q1,q2,q3,q4⟩:=hz _ ho.symm
    rw [← q1,← q2,← q3,← q4]
    simp [fct0,sheet0]
  rw [if_neg h5] at hc
  simp only [if_neg h5] at ho
  by_cases h6 : f.kind = 6
  · simp only [if_pos h6] at ho
    obtain ⟨q1,q2,q3,q4⟩:=hz _ ho.symm
    rw [← q1,← q2,← q3,← q4]
    simp [fct0,sheet0]
  rw [if_neg h6] at hc
  simp only [if_neg h6] at ho
  by_cases h7 : f.kind = 7
  · rw [if_pos h7] at hc
    simp only [if_pos h7] at ho
    obtain ⟨q1,q2,q3,q4⟩:=hz _ ho.symm
    rw [← q1,← q2,← q4]
    have:=hc.2.2.1.2.1
    exact ⟨by simp [fct0,sheet0],by simp [fct0],by omega,by simp [fct0]⟩
  simp only [if_neg h7] at ho
  obtain ⟨q1,q2,q3,q4⟩:=hz _ ho.symm
  rw [← q1,← q2,← q3,← q4]
  simp [fct0,sheet0]
theorem ShAt.nil (h : Ro) : ShAt h fsh0 sheet0:=⟨SlOf.nil,SlOf.nil,SlOf.nil,SlOf.nil⟩
theorem FAt.nil (h : Ro) : FAt h fsh0 fct0:=⟨ShAt.nil h,SlOf.nil,SlOf.nil,rfl,Nat.le_refl _⟩
def encF82 (p : Fsh × Fct) : List Value:=factC p.1 p.2
theorem encF82_len (p : Fsh × Fct) : (encF82 p).length = 82:=rfl
end Go.Hw
set_option linter.unusedVariables false
set_option linter.unusedSimpArgs false
set_option maxRecDepth 100000
set_option maxHeartbeats 1600000
namespace Go.Hw
open Go
attribute [local irreducible] GO GOl GDp Val Fn Res CellsAt ValE Blk OwnS MapA OwnPf Has
open Go.Proofs (Tryz.prog)
theorem below7_c (h : Ro) (n m : Int) : Val Tryz.prog 106 #[.int .i64 n,.int .i64 m] h (.bool (decide (Bel n m))):=by
  refine Val_intro (args:=[_,_]) ts_ok Go.Proofs.Tryz.func106 rfl rfl fun w0 X0 => ?_
  repeat' (first|apply GO_seq|apply GO_region|apply GOl_nil|(apply GOl_unwanted;exact rfl;exact rfl)|(apply GOl_pv;(iterate 3 exact rfl))|(apply GOl_split;exact rfl;exact rfl;all_goals (intro hc;try simp only [hcS,reduceCtorEq] at hc;try (exfalso;omega)))|(apply GO_retV1;(iterate 3 exact rfl)))
  all_goals (simp only [ltI_eq,Value.bool.injEq];first|(rw [decide_eq_decide];unfold Bel;omega)|(symm;rw [decide_eq_false_iff_not];unfold Bel;omega))
theorem club7_c (h : Ro) (n : Int) : Val Tryz.prog 118 #[.int .i64 n] h (.bool (decide (Bel n 192))):=by
  refine Val_intro (args:=[_]) ts_ok Go.Proofs.Tryz.func118 rfl rfl fun w0 X0 => ?_
  repeat' (first|apply GO_seq|apply GO_region|apply GOl_nil|(apply GOl_pv;(iterate 3 exact rfl))|(apply GOl_to;(iterate 3 exact rfl);(first|(apply OpTo_val;exact rfl;exact has106;exact below7_c _ _ _;skip)))|(apply GO_retV1;(iterate 3 exact rfl)))
  all_goals rfl
theorem player7_c (h : Ro) (n : Int) : Val Tryz.prog 117 #[.int .i64 n] h (.bool (decide (Bel n 8192))):=by
  refine Val_intro (args:=[_]) ts_ok Go.Proofs.Tryz.func117 rfl rfl fun w0 X0 => ?_
  repeat' (first|apply GO_seq|apply GO_region|apply GOl_nil|(apply GOl_pv;(iterate 3 exact rfl))|(apply GOl_to;(iterate 3 exact rfl);(first|(apply OpTo_val;exact rfl;exact has106;exact below7_c _ _ _;skip)))|(apply GO_retV1;(iterate 3 exact rfl)))
  all_goals rfl
theorem goals7_c (h : Ro) (n : Int) : Val Tryz.prog 156 #[.int .i64 n] h (.bool (decide (Bel n 100))):=by
  refine Val_intro (args:=[_]) ts_ok Go.Proofs.Tryz.func156 rfl rfl fun w0 X0 => ?_
  repeat' (first|apply GO_seq|apply GO_region|apply GOl_nil|(apply GOl_pv;(iterate 3 exact rfl))|(apply GOl_to;(iterate 3 exact rfl);(first|(apply OpTo_val;exact rfl;exact has106;exact below7_c _ _ _;skip)))|(apply GO_retV1;(iterate 3 exact rfl)))
  all_goals rfl
theorem day7_c (h : Ro) (n : Int) : Val Tryz.prog 64 #[.int .i64 n] h (.bool (decide (Bel n 1048577))):=by
  refine Val_intro (args:=[_]) ts_ok Go.Proofs.Tryz.func64 rfl rfl fun w0 X0 => ?_
  repeat' (first|apply GO_seq|apply GO_region|apply GOl_nil|(apply GOl_pv;(iterate 3 exact rfl))|(apply GOl_to;(iterate 3 exact rfl);(first|(apply OpTo_val;exact rfl;exact has106;exact below7_c _ _ _;skip)))|(apply GO_retV1;(iterate 3 exact rfl)))
  all_goals rfl
theorem contest7_c (h : Ro) (n m : Int) : Val Tryz.prog 151 #[.int .i64 n,.int .i64 m] h (.bool (decide (Bel n 64 ∧ Bel m 16))):=by
  refine Val_intro (args:=[_,_]) ts_ok Go.Proofs.Tryz.func151 rfl rfl fun w0 X0 => ?_
  repeat' (first|apply GO_seq|apply GO_region|apply GOl_nil|(apply GOl_unwanted;exact rfl;exact rfl)|(apply GOl_pv;(iterate 3 exact rfl))|(apply GOl_to;(iterate 3 exact rfl);(first|(apply OpTo_val;exact rfl;exact has106;exact below7_c _ _ _;skip)))|(apply GOl_split;exact rfl;exact rfl;all_goals (intro hc;try simp only [hcS,reduceCtorEq] at hc;try (exfalso;omega)))|(apply GO_retV1;(iterate 3 exact rfl)))
  all_goals (simp only [Value.bool.injEq];first|(rw [decide_eq_decide];simp [*];done)|(symm;rw [decide_eq_false_iff_not];simp [*];done))
theorem game7_c (h : Ro) (g : FGame) : Val Tryz.prog 105 #[gameV g] h (.int .i64 (if GameOk g then 0 else 70)):=by
  refine Val_intro (args:=[_]) ts_ok Go.Proofs.Tryz.func105 rfl rfl fun w0 X0 => ?_
  repeat' (first|apply GO_seq|apply GO_skip|apply GO_region|apply GOl_nil|(apply GOl_unwanted;exact rfl;exact rfl)|(apply GOl_pv;(iterate 3 exact rfl))|(apply GOl_load;exact rfl;exact Ld_blk rfl QM rfl;exact rfl;exact rfl)|(apply GOl_to;(iterate 3 exact rfl);(first|(apply OpTo_box;exact rfl;intro b;skip)|(apply OpTo_val;exact rfl;exact has151;exact contest7_c _ _ _;skip)|(apply OpTo_val;exact rfl;exact has118;exact club7_c _ _;skip)))|(apply GO_cond;exact rfl;all_goals (intro hc;try simp only [hcS,reduceCtorEq] at hc;try (exfalso;omega)))|(apply GOl_split;exact rfl;exact rfl;all_goals (intro hc;try simp only [hcS,reduceCtorEq] at hc;try (exfalso;omega)))|(apply GO_retV1;(iterate 3 exact rfl)))
  all_goals (first|(rw [if_neg (by unfold GameOk;simp_all)];done)|(rw [if_pos (by unfold GameOk;simp_all)];done))
theorem getD_ge {xs : List Int} : IncrL xs ↔ ∀ i,0 < i → i < xs.length → xs.getD (i - 1) 0 < xs.getD i 0:=by
  constructor
  · intro h i h0 hi
    unfold IncrL at h
    rw [List.pairwise_iff_getElem] at h
    have:=h (i - 1) i (by omega) hi (by omega)
    simpa [List.getD,List.getElem?_eq_getElem hi,List.getElem?_eq_getElem (show i - 1 < xs.length by omega)] using this
  · intro h
    unfold IncrL
    induction xs with
    | nil => exact .nil
    | cons a r ih =>
      have hr:=ih (fun i h0 hi => by
        have:=h (i + 1) (by omega) (by simpa using hi)
        simp only [Nat.add_sub_cancel,List.getD_cons_succ] at this
        obtain ⟨j,rfl⟩ : ∃ j,i = j + 1:=⟨i - 1,by omega⟩
        simpa using this)
      refine .cons (fun b hb => ?_) hr
      cases r with
      | nil => cases hb
      | cons c r =>
        have h1 : a < c:=by have:=h 1 (by omega) (by simp);simpa using this
        rw [List.pairwise_cons] at hr
        rcases List.mem_cons.1 hb with e|e
        · rw [e];exact h1
        · exact Int.lt_trans h1 (hr.1 b e)
open Classical in
theorem incr7_c (h : Ro) (A : Option Addr) (n c : Nat) (xs : List Int) (hx : SlOf encI 1 h A n xs) (hn : n ≤ 9223372036854775807) :
    Val Tryz.prog 153 #[.slice A n c] h (.bool (decide (IncrL xs))):=by
  refine Val_intro (args:=[_]) ts_ok Go.Proofs.Tryz.func153 rfl rfl fun w0 X0 => ?_
  have hlen:=hx.len
  repeat' (first|apply GO_seq|apply GO_block|apply GO_region|apply GOl_nil|(apply GOl_pv;(iterate 3 exact rfl)))
  refine GO_loopT (X:=Nat) (fun k => 1 ≤ k ∧ (k ≤ n ∨ k = 1) ∧ ∀ i,0 < i → i < k → i < xs.length → xs.getD (i - 1) 0 < xs.getD i 0) (fun k => n + 1 - k) (fun k => [(3,.int .i64 k),(0,.slice A n c)]) (fun _ => []) (fun _ => h) 1 ⟨by omega,by omega,fun i h0 h1 => by omega⟩ QS QT rfl ?_
  rintro k ⟨hk1,hk,hI⟩ ih
  by_cases hkn : k < n
  · have a1:=hx.addrD hkn
    have c1:=hx.cellsD 0 hkn
    have c2:=hx.cellsD 0 (show k - 1 < n by omega)
    have hs:=hI k
    generalize hg1 : xs.getD k 0 = u at *
    generalize hg2 : xs.getD (k - 1) 0 = v at *
    repeat' (first|apply GO_seq|apply GO_skip|apply GO_inBlock|apply GO_block|apply GO_region|apply GOl_nil|(apply GOl_add;(iterate 3 exact rfl);omega;exact rfl;exact rfl)|(apply GOl_pv;(iterate 3 exact rfl))|(apply GO_drawp (n:=4) [0,1,2,3,4,5,6,7,8,9] [(0,0),(1,0),(2,0),(3,0),(4,0),(5,0),(6,0),(7,0),(8,0),(9,0)];kernel_rfl)|(apply GP_sub;exact rfl;kernel_rfl;(iterate 5 exact rfl);omega)|(apply GP_pv;exact rfl;kernel_rfl;(iterate 3 exact rfl))|(apply GP_ov;exact rfl;kernel_rfl;exact rfl;exact rfl;(first|(apply OV_idxS (j:=k);(iterate 5 exact rfl);exact a1;(with_reducible exact rfl);omega)|(apply OV_idxS (j:=k - 1);(iterate 5 exact rfl);exact a1;omega;omega)|(apply OV_load;exact rfl;exact Lv_ro rfl c1 rfl)|(apply OV_load;exact rfl;exact Lv_ro rfl c2 rfl));exact QA)|(apply GP_done;kernel_rfl;exact rfl)|(apply GO_cond;exact rfl;all_goals (intro hc;try simp only [hcS,reduceCtorEq] at hc;try (exfalso;omega))))
    · (first|(apply GO_retV1;(iterate 3 exact rfl)))
      rw [decide_eq_false];intro hh;have:=getD_ge.1 hh k (by omega) (by omega);omega
    · have h3:=ih (k + 1) ⟨by omega,by omega,fun i h0 h1 h2 => by
        by_cases e : i = k
        · subst e;rw [hg1,hg2];assumption
        · exact hI i h0 (by omega) h2⟩ (by omega)
      refine GO_fit QS QT (h3)
  · repeat' (first|apply GO_seq|apply GO_region|apply GOl_nil|(apply GO_exit;exact rfl)|(apply GOl_pv;(iterate 3 exact rfl))|(apply GO_cond;exact rfl;all_goals (intro hc;try simp only [hcS,reduceCtorEq] at hc;try (exfalso;omega)))|(apply GO_retV1;(iterate 3 exact rfl)))
    rw [decide_eq_true];exact getD_ge.2 fun i h0 h1 => hI i h0 (by omega) h1
end Go.Hw
set_option linter.unusedVariables false
set_option linter.unusedSimpArgs false
set_option maxRecDepth 100000
set_option maxHeartbeats 1600000
namespace Go.Hw
open Go
attribute [local irreducible] GO GOl GDp Val Fn Res CellsAt ValE Blk OwnS MapA OwnPf Has
open Go.Proofs (Tryz.prog)
theorem dec_of {b : Bool} {p : Prop} {inst : Decidable p} (h : b = true ↔ p) : b = decide p:=by
  rw [Bool.eq_iff_iff,decide_eq_true_eq];exact h
theorem dec_ofV {b : Bool} {p : Prop} {inst : Decidable p} (h : b = true ↔ p) : Value.bool b = Value.bool (decide p):=by
  rw [dec_of h]
def idx7 {α : Type} (p : α → Bool) : List α → Nat → Int
  | [],_ => -1
  | x :: r,k => if p x then k else idx7 p r (k + 1)
theorem idx7_nonneg {α : Type} (p : α → Bool) : ∀ (l : List α) (k : Nat),0 ≤ idx7 p l k ↔ l.any p = true
  | [],k => by simp [idx7]
  | a :: r,k => by
    have:=idx7_nonneg p r (k + 1)
    by_cases h : p a
    · simp [idx7,h]
    · simp [idx7,h,this]
theorem drop7 {α : Type} (d : α) {xs : List α} {k n : Nat} (hlen : xs.length = n) (hk : k < n) : xs.drop k = xs.getD k d :: xs.drop (k + 1):=by
  rw [List.drop_eq_getElem_cons (by omega)];simp [List.getD,List.getElem?_eq_getElem (show k < xs.length by omega)]
theorem take7 {α : Type} (d : α) {xs : List α} {k n : Nat} (hlen : xs.length = n) (hk : k < n) : xs.take (k + 1) = xs.take k ++ [xs.getD k d]:=by
  rw [List.take_add_one];simp [List.getD,List.getElem?_eq_getElem (show k < xs.length by omega)]
theorem mem7 {α : Type} (d : α) {xs : List α} {k : Nat} (hk : k < xs.length) : xs.getD k d ∈ xs:=by
  simp [List.getD,List.getElem?_eq_getElem hk]
theorem idxFI_c (h : Ro) (A : Option Addr) (n c : Nat) (l : List Int) (hx : SlOf encI 1 h A n l) (hn : n ≤ 9223372036854775807) (f : FuncId) (fs cs : List Value) (p : Int → Bool) (hh : Has Tryz.prog f)
    (hf : ∀ x ∈ l,Val Tryz.prog f (fs ++ [Value.int .i64 x] ++ cs).toArray h (.bool (p x))) :
    Val Tryz.prog 183 #[.slice A n c,.func (.func f) fs.toArray cs.toArray] h (.int .i64 (idx7 p l 0)):=by
  refine Val_intro (args:=[_,_]) ts_ok Go.Proofs.Tryz.func183 rfl rfl fun w0 X0 => ?_
  have hlen:=hx.len
  repeat' (first|apply GO_seq|apply GO_block|apply GO_region|apply GOl_nil|(apply GOl_pv;(iterate 3 exact rfl)))
  refine GO_loopT (X:=Nat) (fun k => k ≤ n ∧ idx7 p (l.drop k) k = idx7 p l 0) (fun k => n - k) (fun k => [(8,.int .i64 k),(7,.int .i64 n),(0,.slice A n c),(1,.func (.func f) fs.toArray cs.toArray)]) (fun _ => []) (fun _ => h) 0 ⟨by omega,rfl⟩ QS QT rfl ?_
  rintro k ⟨hk,hI⟩ ih
  by_cases hkn : k < n
  · have a1:=hx.addrD hkn
    have c1:=hx.cellsD 0 hkn
    have hd:=drop7 0 hlen hkn
    have hv:=hf _ (mem7 0 (show k < l.length by omega))
    generalize l.getD k 0 = x at *
    repeat' (first|apply GO_seq|apply GO_skip|apply GO_inBlock|apply GO_block|apply GO_region|apply GOl_nil|(apply GOl_add;(iterate 3 exact rfl);omega;exact rfl;exact rfl)|(apply GOl_pv;(iterate 3 exact rfl))|(apply GOl_ov;exact rfl;exact rfl;(first|(apply OV_idxS (j:=k);(iterate 5 exact rfl);exact a1;(with_reducible exact rfl);omega)|(apply OV_load;exact rfl;exact Lv_ro rfl c1 rfl));exact QA)|(apply GOl_to;(iterate 3 exact rfl);(first|(apply OpTo_valF (f:=f) (fs:=fs) (cs:=cs);exact rfl;exact rfl;exact hh;exact hv;skip)))|(apply GO_cond;exact rfl;all_goals (intro hc;try simp only [hcS,reduceCtorEq] at hc;try (exfalso;omega)))|(apply GO_retV1;(iterate 3 exact rfl)))
    · rw [← hI,hd,idx7,if_pos hc]
    · have h3:=ih (k + 1) ⟨by omega,by rw [← hI,hd,idx7,if_neg (by simp [hc])]⟩ (by omega)
      refine GO_fit QS QT (h3)
  · repeat' (first|apply GO_seq|apply GO_region|apply GOl_nil|(apply GO_exit;exact rfl)|(apply GOl_pv;(iterate 3 exact rfl))|(apply GO_cond;exact rfl;all_goals (intro hc;try simp only [hcS,reduceCtorEq] at hc;try (exfalso;omega)))|(apply GO_retV1;(iterate 3 exact rfl)))
    rw [← hI,show k = l.length by omega,List.drop_length];rfl
theorem conFI_c (h : Ro) (A : Option Addr) (n c : Nat) (l : List Int) (hx : SlOf encI 1 h A n l) (hn : n ≤ 9223372036854775807) (f : FuncId) (fs cs : List Value) (p : Int → Bool) (hh : Has Tryz.prog f)
    (hf : ∀ x ∈ l,Val Tryz.prog f (fs ++ [Value.int .i64 x] ++ cs).toArray h (.bool (p x))) :
    Val Tryz.prog 158 #[.slice A n c,.func (.func f) fs.toArray cs.toArray] h (.bool (l.any p)):=by
  refine Val_intro (args:=[_,_]) ts_ok Go.Proofs.Tryz.func158 rfl rfl fun w0 X0 => ?_
  repeat' (first|apply GO_seq|apply GO_region|apply GOl_nil|(apply GOl_pv;(iterate 3 exact rfl))|(apply GOl_to;(iterate 3 exact rfl);(first|(apply OpTo_val;exact rfl;exact has183;exact idxFI_c _ _ _ _ _ hx hn f fs cs p hh hf;skip)))|(apply GO_retV1;(iterate 3 exact rfl)))
  rw [leI_eq];congr 1;rw [Bool.eq_iff_iff,decide_eq_true_eq];exact idx7_nonneg _ _ _
def cardV (c : FCard) : Value:=.agg (encC c).toArray
def card0 : FCard:=⟨0,false⟩
theorem idxFC_c (h : Ro) (A : Option Addr) (n c : Nat) (l : List FCard) (hx : SlOf encC 2 h A n l) (hn : n ≤ 9223372036854775807) (f : FuncId) (fs cs : List Value) (p : FCard → Bool) (hh : Has Tryz.prog f)
    (hf : ∀ x ∈ l,Val Tryz.prog f (fs ++ [cardV x] ++ cs).toArray h (.bool (p x))) :
    Val Tryz.prog 207 #[.slice A n c,.func (.func f) fs.toArray cs.toArray] h (.int .i64 (idx7 p l 0)):=by
  refine Val_intro (args:=[_,_]) ts_ok Go.Proofs.Tryz.func207 rfl rfl fun w0 X0 => ?_
  have hlen:=hx.len
  repeat' (first|apply GO_seq|apply GO_block|apply GO_region|apply GOl_nil|(apply GOl_pv;(iterate 3 exact rfl)))
  refine GO_loopT (X:=Nat) (fun k => k ≤ n ∧ idx7 p (l.drop k) k = idx7 p l 0) (fun k => n - k) (fun k => [(8,.int .i64 k),(7,.int .i64 n),(0,.slice A n c),(1,.func (.func f) fs.toArray cs.toArray)]) (fun _ => []) (fun _ => h) 0 ⟨by omega,rfl⟩ QS QT rfl ?_
  rintro k ⟨hk,hI⟩ ih
  by_cases hkn : k < n
  · have a1:=hx.addrD hkn
    have c1:=hx.cellsD card0 hkn
    have hd:=drop7 card0 hlen hkn
    have hv:=hf _ (mem7 card0 (show k < l.length by omega))
    generalize l.getD k card0 = x at *
    repeat' (first|apply GO_seq|apply GO_skip|apply GO_inBlock|apply GO_block|apply GO_region|apply GOl_nil|(apply GOl_add;(iterate 3 exact rfl);omega;exact rfl;exact rfl)|(apply GOl_pv;(iterate 3 exact rfl))|(apply GOl_ov;exact rfl;exact rfl;(first|(apply OV_idxS (j:=k);(iterate 5 exact rfl);exact a1;(with_reducible exact rfl);omega)|(apply OV_load;exact rfl;exact Lv_ro rfl c1 rfl));exact QA)|(apply GOl_to;(iterate 3 exact rfl);(first|(apply OpTo_valF (f:=f) (fs:=fs) (cs:=cs);exact rfl;exact rfl;exact hh;exact hv;skip)))|(apply GO_cond;exact rfl;all_goals (intro hc;try simp only [hcS,reduceCtorEq] at hc;try (exfalso;omega)))|(apply GO_retV1;(iterate 3 exact rfl)))
    · rw [← hI,hd,idx7,if_pos hc]
    · have h3:=ih (k + 1) ⟨by omega,by rw [← hI,hd,idx7,if_neg (by simp [hc])]⟩ (by omega)
      refine GO_fit QS QT (h3)
  · repeat' (first|apply GO_seq|apply GO_region|apply GOl_nil|(apply GO_exit;exact rfl)|(apply GOl_pv;(iterate 3 exact rfl))|(apply GO_cond;exact rfl;all_goals (intro hc;try simp only [hcS,reduceCtorEq] at hc;try (exfalso;omega)))|(apply GO_retV1;(iterate 3 exact rfl)))
    rw [← hI,show k = l.length by omega,List.drop_length];rfl
theorem conFC_c (h : Ro) (A : Option Addr) (n c : Nat) (l : List FCard) (hx : SlOf encC 2 h A n l) (hn : n ≤ 9223372036854775807) (f : FuncId) (fs cs : List Value) (p : FCard → Bool) (hh : Has Tryz.prog f)
    (hf : ∀ x ∈ l,Val Tryz.prog f (fs ++ [cardV x] ++ cs).toArray h (.bool (p x))) :
    Val Tryz.prog 181 #[.slice A n c,.func (.func f) fs.toArray cs.toArray] h (.bool (l.any p)):=by
  refine Val_intro (args:=[_,_]) ts_ok Go.Proofs.Tryz.func181 rfl rfl fun w0 X0 => ?_
  repeat' (first|apply GO_seq|apply GO_region|apply GOl_nil|(apply GOl_pv;(iterate 3 exact rfl))|(apply GOl_to;(iterate 3 exact rfl);(first|(apply OpTo_val;exact rfl;exact has207;exact idxFC_c _ _ _ _ _ hx hn f fs cs p hh hf;skip)))|(apply GO_retV1;(iterate 3 exact rfl)))
  rw [leI_eq];congr 1;rw [Bool.eq_iff_iff,decide_eq_true_eq];exact idx7_nonneg _ _ _
theorem idxI7_c (h : Ro) (A : Option Addr) (n c : Nat) (l : List Int) (hx : SlOf encI 1 h A n l) (hn : n ≤ 9223372036854775807) (v : Int) :
    Val Tryz.prog 184 #[.slice A n c,.int .i64 v] h (.int .i64 (idx7 (fun x => decide (x = v)) l 0)):=by
  refine Val_intro (args:=[_,_]) ts_ok Go.Proofs.Tryz.func184 rfl rfl fun w0 X0 => ?_
  have hlen:=hx.len
  repeat' (first|apply GO_seq|apply GO_block|apply GO_region|apply GOl_nil|(apply GOl_pv;(iterate 3 exact rfl)))
  refine GO_loopT (X:=Nat) (fun k => k ≤ n ∧ idx7 (fun x => decide (x = v)) (l.drop k) k = idx7 (fun x => decide (x = v)) l 0) (fun k => n - k) (fun k => [(8,.int .i64 k),(7,.int .i64 n),(0,.slice A n c),(1,.int .i64 v)]) (fun _ => []) (fun _ => h) 0 ⟨by omega,rfl⟩ QS QT rfl ?_
  rintro k ⟨hk,hI⟩ ih
  by_cases hkn : k < n
  · have a1:=hx.addrD hkn
    have c1:=hx.cellsD 0 hkn
    have hd:=drop7 0 hlen hkn
    generalize l.getD k 0 = x at *
    repeat' (first|apply GO_seq|apply GO_skip|apply GO_inBlock|apply GO_block|apply GO_region|apply GOl_nil|(apply GOl_add;(iterate 3 exact rfl);omega;exact rfl;exact rfl)|(apply GOl_pv;(iterate 3 exact rfl))|(apply GOl_ov;exact rfl;exact rfl;(first|(apply OV_idxS (j:=k);(iterate 5 exact rfl);exact a1;(with_reducible exact rfl);omega)|(apply OV_load;exact rfl;exact Lv_ro rfl c1 rfl));exact QA)|(apply GO_cond;exact rfl;all_goals (intro hc;try simp only [hcS,reduceCtorEq] at hc;try (exfalso;omega)))|(apply GO_retV1;(iterate 3 exact rfl)))
    all_goals first
      | (rw [← hI,hd,idx7,if_pos (by simp;omega)];done)
      | (have h3:=ih (k + 1) ⟨by omega,by rw [← hI,hd,idx7,if_neg (by simp;omega)]⟩ (by omega)
         refine GO_fit QS QT (h3))
  · repeat' (first|apply GO_seq|apply GO_region|apply GOl_nil|(apply GO_exit;exact rfl)|(apply GOl_pv;(iterate 3 exact rfl))|(apply GO_cond;exact rfl;all_goals (intro hc;try simp only [hcS,reduceCtorEq] at hc;try (exfalso;omega)))|(apply GO_retV1;(iterate 3 exact rfl)))
    rw [← hI,show k = l.length by omega,List.drop_length];rfl
theorem con7_c (h : Ro) (A : Option Addr) (n c : Nat) (l : List Int) (hx : SlOf encI 1 h A n l) (hn : n ≤ 9223372036854775807) (v : Int) :
    Val Tryz.prog 160 #[.slice A n c,.int .i64 v] h (.bool (decide (v ∈ l))):=by
  refine Val_intro (args:=[_,_]) ts_ok Go.Proofs.Tryz.func160 rfl rfl fun w0 X0 => ?_
  repeat' (first|apply GO_seq|apply GO_region|apply GOl_nil|(apply GOl_pv;(iterate 3 exact rfl))|(apply GOl_to;(iterate 3 exact rfl);(first|(apply OpTo_val;exact rfl;exact has184;exact idxI7_c _ _ _ _ _ hx hn _;skip)))|(apply GO_retV1;(iterate 3 exact rfl)))
  rw [leI_eq];congr 1;rw [decide_eq_decide,idx7_nonneg,List.any_eq_true]
  constructor
  · rintro ⟨x,hx,h2⟩;simp at h2;subst h2;exact hx
  · intro hh;exact ⟨v,hh,by simp⟩
theorem equalI_c (h : Ro) (A : Option Addr) (n c : Nat) (l : List Int) (hx : SlOf encI 1 h A n l) (hn : n ≤ 9223372036854775807) (B : Option Addr) (m d : Nat) (r : List Int) (hy : SlOf encI 1 h B m r) (hm : m ≤ 9223372036854775807) :
    Val Tryz.prog 60 #[.slice A n c,.slice B m d] h (.bool (decide (l = r))):=by
  refine Val_intro (args:=[_,_]) ts_ok Go.Proofs.Tryz.func60 rfl rfl fun w0 X0 => ?_
  have hlen:=hx.len
  have hlen2:=hy.len
  by_cases hnm : n = m
  · subst hnm
    repeat' (first|apply GO_seq|apply GO_skip|apply GO_block|apply GO_region|apply GOl_nil|(apply GOl_pv;(iterate 3 exact rfl))|(apply GO_cond;exact rfl;all_goals (intro hc;try simp only [hcS,reduceCtorEq] at hc;try (exfalso;omega))))
    · refine GO_loopT (X:=Nat) (fun k => k ≤ n ∧ l.take k = r.take k) (fun k => n - k) (fun k => [(13,.int .i64 k),(12,.int .i64 n),(0,.slice A n c),(1,.slice B n d)]) (fun _ => []) (fun _ => h) 0 ⟨by omega,rfl⟩ QS QT rfl ?_
      rintro k ⟨hk,hI⟩ ih
      by_cases hkn : k < n
      · have a1:=hx.addrD hkn
        have c1:=hx.cellsD 0 hkn
        have a2:=hy.addrD hkn
        have c2:=hy.cellsD 0 hkn
        have ht1:=take7 0 hlen hkn
        have ht2:=take7 0 hlen2 hkn
        have hne : l.getD k 0 ≠ r.getD k 0 → l ≠ r:=fun h1 h2 => h1 (by rw [h2])
        generalize l.getD k 0 = u at *
        generalize r.getD k 0 = v at *
        repeat' (first|apply GO_seq|apply GO_skip|apply GO_inBlock|apply GO_block|apply GO_region|apply GOl_nil|(apply GOl_add;(iterate 3 exact rfl);omega;exact rfl;exact rfl)|(apply GOl_pv;(iterate 3 exact rfl))|(apply GO_drawp (n:=6) [0,1,2,3,4,5,6,7,8] [(0,0),(1,0),(2,0),(3,0),(4,0),(5,0),(6,0),(7,0),(8,0)];kernel_rfl)|(apply GP_pv;exact rfl;kernel_rfl;(iterate 3 exact rfl))|(apply GP_ov;exact rfl;kernel_rfl;exact rfl;exact rfl;(first|(apply OV_idxS (j:=k);(iterate 5 exact rfl);exact a1;(with_reducible exact rfl);omega)|(apply OV_idxS (j:=k);(iterate 5 exact rfl);exact a2;(with_reducible exact rfl);omega)|(apply OV_load;exact rfl;exact Lv_ro rfl c1 rfl)|(apply OV_load;exact rfl;exact Lv_ro rfl c2 rfl));exact QA)|(apply GP_done;kernel_rfl;exact rfl)|(apply GO_cond;exact rfl;all_goals (intro hc;try simp only [hcS,reduceCtorEq] at hc;try (exfalso;omega))))
        · (first|(apply GO_retV1;(iterate 3 exact rfl)))
          rw [decide_eq_false (hne (by omega))]
        · have h3:=ih (k + 1) ⟨by omega,by have e5 : u = v:=(by omega);rw [ht1,ht2,hI,e5]⟩ (by omega)
          refine GO_fit QS QT (h3)
      · repeat' (first|apply GO_seq|apply GO_region|apply GOl_nil|(apply GO_exit;exact rfl)|(apply GOl_pv;(iterate 3 exact rfl))|(apply GO_cond;exact rfl;all_goals (intro hc;try simp only [hcS,reduceCtorEq] at hc;try (exfalso;omega)))|(apply GO_retV1;(iterate 3 exact rfl)))
        rw [List.take_of_length_le (by omega),List.take_of_length_le (by omega)] at hI
        rw [decide_eq_true hI]
  · repeat' (first|apply GO_seq|apply GO_region|apply GOl_nil|(apply GOl_pv;(iterate 3 exact rfl))|(apply GO_cond;exact rfl;all_goals (intro hc;try simp only [hcS,reduceCtorEq] at hc;try (exfalso;omega)))|(apply GO_retV1;(iterate 3 exact rfl)))
    rw [decide_eq_false];intro hh;subst hh;omega
theorem equalC_c (h : Ro) (A : Option Addr) (n c : Nat) (l : List FCard) (hx : SlOf encC 2 h A n l) (hn : n ≤ 9223372036854775807) (B : Option Addr) (m d : Nat) (r : List FCard) (hy : SlOf encC 2 h B m r) (hm : m ≤ 9223372036854775807) :
    Val Tryz.prog 61 #[.slice A n c,.slice B m d] h (.bool (decide (l = r))):=by
  refine Val_intro (args:=[_,_]) ts_ok Go.Proofs.Tryz.func61 rfl rfl fun w0 X0 => ?_
  have hlen:=hx.len
  have hlen2:=hy.len
  by_cases hnm : n = m
  · subst hnm
    repeat' (first|apply GO_seq|apply GO_skip|apply GO_block|apply GO_region|apply GOl_nil|(apply GOl_pv;(iterate 3 exact rfl))|(apply GO_cond;exact rfl;all_goals (intro hc;try simp only [hcS,reduceCtorEq] at hc;try (exfalso;omega))))
    · refine GO_loopT (X:=Nat) (fun k => k ≤ n ∧ l.take k = r.take k) (fun k => n - k) (fun k => [(13,.int .i64 k),(12,.int .i64 n),(0,.slice A n c),(1,.slice B n d)]) (fun _ => []) (fun _ => h) 0 ⟨by omega,rfl⟩ QS QT rfl ?_
      rintro k ⟨hk,hI⟩ ih
      by_cases hkn : k < n
      · have a1:=hx.addrD hkn
        have c1:=hx.cellsD card0 hkn
        have a2:=hy.addrD hkn
        have c2:=hy.cellsD card0 hkn
        have ht1:=take7 card0 hlen hkn
        have ht2:=take7 card0 hlen2 hkn
        have hne : l.getD k card0 ≠ r.getD k card0 → l ≠ r:=fun h1 h2 => h1 (by rw [h2])
        generalize l.getD k card0 = u at *
        generalize r.getD k card0 = v at *
        obtain ⟨up,ur⟩:=u
        obtain ⟨vp,vr⟩:=v
        repeat' (first|apply GO_seq|apply GO_skip|apply GO_inBlock|apply GO_block|apply GO_region|apply GOl_nil|(apply GOl_add;(iterate 3 exact rfl);omega;exact rfl;exact rfl)|(apply GOl_pv;(iterate 3 exact rfl))|(apply GO_drawp (n:=6) [0,1,2,3,4,5,6,7,8] [(0,0),(1,0),(2,0),(3,0),(4,0),(5,0),(6,0),(7,0),(8,0)];kernel_rfl)|(apply GP_pv;exact rfl;kernel_rfl;(iterate 3 exact rfl))|(apply GP_ov;exact rfl;kernel_rfl;exact rfl;exact rfl;(first|(apply OV_idxS (j:=k);(iterate 5 exact rfl);exact a1;(with_reducible exact rfl);omega)|(apply OV_idxS (j:=k);(iterate 5 exact rfl);exact a2;(with_reducible exact rfl);omega)|(apply OV_load;exact rfl;exact Lv_ro rfl c1 rfl)|(apply OV_load;exact rfl;exact Lv_ro rfl c2 rfl)|(apply OV_neqS;(iterate 3 exact rfl);kernel_rfl;kernel_rfl));exact QA)|(apply GP_done;kernel_rfl;exact rfl)|(apply GO_cond;exact rfl;all_goals (intro hc;try simp only [hcS,reduceCtorEq] at hc;try (exfalso;omega))))
        · (first|(apply GO_retV1;(iterate 3 exact rfl)))
          rw [decide_eq_false (hne (by rintro e;injection e with e1 e2;subst e1;subst e2;simp [eqI_eq] at hc))]
        · have h3:=ih (k + 1) ⟨by omega,by
            simp [eqI_eq] at hc
            rw [ht1,ht2,hI,hc.1,hc.2]⟩ (by omega)
          refine GO_fit QS QT (h3)
      · repeat' (first|apply GO_seq|apply GO_region|apply GOl_nil|(apply GO_exit;exact rfl)|(apply GOl_pv;(iterate 3 exact rfl))|(apply GO_cond;exact rfl;all_goals (intro hc;try simp only [hcS,reduceCtorEq] at hc;try (exfalso;omega)))|(apply GO_retV1;(iterate 3 exact rfl)))
        rw [List.take_of_length_le (by omega),List.take_of_length_le (by omega)] at hI
        rw [decide_eq_true hI]
  · repeat' (first|apply GO_seq|apply GO_region|apply GOl_nil|(apply GOl_pv;(iterate 3 exact rfl))|(apply GO_cond;exact rfl;all_goals (intro hc;try simp only [hcS,reduceCtorEq] at hc;try (exfalso;omega)))|(apply GO_retV1;(iterate 3 exact rfl)))
    rw [decide_eq_false];intro hh;subst hh;omega
end Go.Hw
set_option linter.unusedVariables false
set_option linter.unusedSimpArgs false
set_option maxRecDepth 100000
set_option maxHeartbeats 4000000
namespace Go.Hw
open Go
attribute [local irreducible] GO GOl GDp Val Fn Res CellsAt ValE Blk OwnS MapA OwnPf Has
open Go.Proofs (Tryz.prog)
theorem all1_c (h : Ro) (b : Nat) (g : FuncId) (p : Int → Bool) (hg : Has Tryz.prog g) (hv : ∀ h x,Val Tryz.prog g #[.int .i64 x] h (.bool (p x))) (hc : CellsAt h ⟨b,0,none⟩ [.func (.func g) #[] #[]]) (x : Int) :
    Val Tryz.prog 180 #[.int .i64 x,.pointer (some ⟨b,0,none⟩)] h (.bool (!p x)):=by
  refine Val_intro (args:=[_,_]) ts_ok Go.Proofs.Tryz.func180 rfl rfl fun w0 X0 => ?_
  repeat' (first|apply GO_seq|apply GO_region|apply GOl_nil|(apply GOl_pv;(iterate 3 exact rfl))|(apply GOl_ov;exact rfl;exact rfl;(first|(apply OV_load;exact rfl;first|exact Lv_ro rfl (by assumption) rfl|exact Lv_roF rfl (by assumption) rfl|exact Lv_roF2 rfl (by assumption) rfl|exact Lv_roF3 rfl (by assumption) rfl));exact QA)|(apply GOl_to;(iterate 3 exact rfl);(first|(apply OpTo_valF (f:=g) (fs:=[]) (cs:=[]);exact rfl;exact rfl;exact hg;exact hv _ _;skip)))|(apply GO_retV1;(iterate 3 exact rfl)))
  all_goals rfl
theorem all7_c (h : Ro) (A : Option Addr) (n c : Nat) (xs : List Int) (hx : SlOf encI 1 h A n xs) (hn : n ≤ 9223372036854775807) (lo hi : Int) (g : FuncId) (p : Int → Bool) (hg : Has Tryz.prog g) (hv : ∀ h x,Val Tryz.prog g #[.int .i64 x] h (.bool (p x))) :
    Val Tryz.prog 152 #[.slice A n c,.int .i64 lo,.int .i64 hi,.func (.func g) #[] #[]] h (.bool (decide (lo ≤ (xs.length : Int) ∧ (xs.length : Int) ≤ hi ∧ ∀ x ∈ xs,p x = true))):=by
  refine Val_intro (args:=[_,_,_,_]) ts_ok Go.Proofs.Tryz.func152 rfl rfl fun w0 X0 => ?_
  have hlen:=hx.len
  repeat' (first|apply GO_seq|apply GO_region|apply GOl_nil|(apply GOl_unwanted;exact rfl;exact rfl)|(apply GOl_pv;(iterate 3 exact rfl))|(apply GOl_to;(iterate 3 exact rfl);(first|(apply OpTo_box;exact rfl;intro b;skip)|(refine OpTo_relB QK ?_;intro h1 hle1 hc1;apply OpTo_val;exact rfl;exact has158;exact conFI_c h1 _ _ _ xs (hx.le hle1) hn 180 [] [.pointer (some ⟨_,0,none⟩)] (fun x => !p x) has180 (fun x _ => all1_c h1 _ g p hg hv hc1 x);skip)))|(apply GOl_split;exact rfl;exact rfl;all_goals (intro hc;try simp only [hcS,reduceCtorEq] at hc;try (exfalso;omega)))|(apply GO_retV1;(iterate 3 exact rfl)))
  all_goals (subst hlen;simp only [Value.bool.injEq])
  · rw [Bool.eq_iff_iff];simp only [Bool.not_eq_true',List.any_eq_false,decide_eq_true_eq,Bool.not_eq_true,Bool.not_eq_false']
    constructor
    · intro h2;exact ⟨by omega,by omega,fun x hx => by simpa using h2 x hx⟩
    · intro h2 x hx;simpa using h2.2.2 x hx
  all_goals (symm;rw [decide_eq_false_iff_not];rintro ⟨h1,h2,_⟩;omega)
theorem cards1_c (h : Ro) (b : Nat) (A : Option Addr) (n c : Nat) (sq : List Int) (hx : SlOf encI 1 h A n sq) (hn : n ≤ 9223372036854775807) (hc : CellsAt h ⟨b,0,none⟩ [.slice A n c]) (x : FCard) :
    Val Tryz.prog 182 #[cardV x,.pointer (some ⟨b,0,none⟩)] h (.bool (!decide (x.p ∈ sq))):=by
  refine Val_intro (args:=[_,_]) ts_ok Go.Proofs.Tryz.func182 rfl rfl fun w0 X0 => ?_
  repeat' (first|apply GO_seq|apply GO_region|apply GOl_nil|(apply GOl_pv;(iterate 3 exact rfl))|(apply GOl_load;exact rfl;exact Ld_blk rfl QM rfl;exact rfl;exact rfl)|(apply GOl_ov;exact rfl;exact rfl;(first|(apply OV_load;exact rfl;first|exact Lv_ro rfl (by assumption) rfl|exact Lv_roF rfl (by assumption) rfl|exact Lv_roF2 rfl (by assumption) rfl|exact Lv_roF3 rfl (by assumption) rfl));exact QA)|(apply GOl_to;(iterate 3 exact rfl);(first|(apply OpTo_box;exact rfl;intro b;skip)|(apply OpTo_val;exact rfl;exact has160;exact con7_c _ _ _ _ _ hx hn _;skip)))|(apply GO_retV1;(iterate 3 exact rfl)))
  all_goals rfl
open Classical in
theorem cards7_c (h : Ro) (A : Option Addr) (n c : Nat) (l : List FCard) (hx : SlOf encC 2 h A n l) (hn : n ≤ 9223372036854775807) (B : Option Addr) (m d : Nat) (sq : List Int) (hy : SlOf encI 1 h B m sq) (hm : m ≤ 9223372036854775807) :
    Val Tryz.prog 157 #[.slice A n c,.slice B m d] h (.bool (decide (CardsOk l sq))):=by
  refine Val_intro (args:=[_,_]) ts_ok Go.Proofs.Tryz.func157 rfl rfl fun w0 X0 => ?_
  have hlen:=hx.len
  repeat' (first|apply GO_seq|apply GO_region|apply GOl_nil|(apply GOl_unwanted;exact rfl;exact rfl)|(apply GOl_pv;(iterate 3 exact rfl))|(apply GOl_to;(iterate 3 exact rfl);(first|(apply OpTo_box;exact rfl;intro b;skip)|(refine OpTo_relB QK ?_;intro h1 hle1 hc1;apply OpTo_val;exact rfl;exact has181;exact conFC_c h1 _ _ _ l (hx.le hle1) hn 182 [] [.pointer (some ⟨_,0,none⟩)] (fun x => !decide (x.p ∈ sq)) has182 (fun x _ => cards1_c h1 _ _ _ _ sq (hy.le hle1) hm hc1 x);skip)))|(apply GOl_split;exact rfl;exact rfl;all_goals (intro hc;try simp only [hcS,reduceCtorEq] at hc;try (exfalso;omega)))|(apply GO_retV1;(iterate 3 exact rfl)))
  all_goals (subst hlen;simp only [Value.bool.injEq])
  · refine dec_of ?_
    simp only [Bool.not_eq_true',List.any_eq_false,Bool.not_eq_true,Bool.not_eq_false',decide_eq_true_eq]
    exact ⟨fun h2 => ⟨by omega,fun x hx => by simpa using h2 x hx⟩,fun h2 x hx => by simpa using h2.2 x hx⟩
  all_goals (symm;rw [decide_eq_false_iff_not];rintro ⟨h1,_⟩;omega)
def NameC (c : UInt8) : Prop:=(97 ≤ c.toNat ∧ c.toNat ≤ 122) ∨ (48 ≤ c.toNat ∧ c.toNat ≤ 57) ∨ c.toNat = 95
theorem nameOk_iff (s : List UInt8) : NameOk s ↔ 1 ≤ s.length ∧ s.length ≤ 24 ∧ (97 ≤ (s.getD 0 0).toNat ∧ (s.getD 0 0).toNat ≤ 122) ∧ ∀ c ∈ s,NameC c:=by
  unfold NameOk NameC
  cases s with
  | nil => simp
  | cons a r => simp
open Classical in
theorem name7_c (h : Ro) (s : List UInt8) (hs : s.length ≤ 9223372036854775807) : Val Tryz.prog 154 #[.string (str s)] h (.bool (decide (NameOk s))):=by
  refine Val_intro (args:=[_]) ts_ok Go.Proofs.Tryz.func154 rfl rfl fun w0 X0 => ?_
  have hz:=str_size s
  by_cases h0 : s.length = 0
  · repeat' (first|apply GO_seq|apply GO_region|apply GOl_nil|(apply GOl_unwanted;exact rfl;exact rfl)|(apply GOl_pv;(iterate 3 exact rfl))|(apply GO_cond;exact rfl;all_goals (intro hc;try simp only [hcS,reduceCtorEq] at hc;try (exfalso;omega)))|(apply GOl_split;exact rfl;exact rfl;all_goals (intro hc;try simp only [hcS,reduceCtorEq] at hc;try (exfalso;omega))))
    all_goals (try (exfalso;rw [hz] at *;omega))
    (first|(apply GO_retV1;(iterate 3 exact rfl)))
    rw [decide_eq_false];rw [nameOk_iff];intro hh;omega
  by_cases h1 : 24 < s.length
  · repeat' (first|apply GO_seq|apply GO_region|apply GOl_nil|(apply GOl_unwanted;exact rfl;exact rfl)|(apply GOl_pv;(iterate 3 exact rfl))|(apply GO_cond;exact rfl;all_goals (intro hc;try simp only [hcS,reduceCtorEq] at hc;try (exfalso;omega)))|(apply GOl_split;exact rfl;exact rfl;all_goals (intro hc;try simp only [hcS,reduceCtorEq] at hc;try (exfalso;omega))))
    all_goals (try (exfalso;rw [hz] at *;omega))
    (first|(apply GO_retV1;(iterate 3 exact rfl)))
    rw [decide_eq_false];rw [nameOk_iff];intro hh;omega
  repeat' (first|apply GO_seq|apply GO_skip|apply GO_region|apply GOl_nil|(apply GOl_unwanted;exact rfl;exact rfl)|(apply GOl_pv;(iterate 3 exact rfl))|(apply GOl_ov;exact rfl;exact rfl;(first|(apply OV_strIdx (s:=s) (j:=0);(iterate 5 exact rfl);omega));exact QA)|(apply GO_cond;exact rfl;all_goals (intro hc;try simp only [hcS,reduceCtorEq] at hc;try (exfalso;omega)))|(apply GOl_split;exact rfl;exact rfl;all_goals (intro hc;try simp only [hcS,reduceCtorEq] at hc;try (exfalso;omega))))
  · (first|(apply GO_retV1;(iterate 3 exact rfl)))
    rw [decide_eq_false];rw [nameOk_iff];intro hh;omega
  · (first|(apply GO_retV1;(iterate 3 exact rfl)))
    rw [decide_eq_false];rw [nameOk_iff];intro hh;omega
  · have hw:=nameOk_iff s
    repeat' (first|apply GO_block|apply GOl_nil|(apply GOl_pv;(iterate 3 exact rfl))|(apply GOl_to;(iterate 3 exact rfl);(first|(apply OpTo_bytesR;(iterate 6 exact rfl);omega;intro A1 c1 h1 hle1 hs1;skip))))
    refine GO_loopT (X:=Nat) (fun k => k ≤ s.length ∧ ∀ c ∈ s.take k,NameC c) (fun k => s.length - k) (fun k => [(26,.int .i64 k),(25,.int .i64 s.length),(24,.slice A1 s.length c1)]) (fun _ => []) (fun _ => h1) 0 ⟨by omega,by simp⟩ QS QT rfl ?_
    rintro k ⟨hk,hI⟩ ih
    by_cases hkn : k < s.length
    · have a1:=hs1.addrD hkn
      have cc:=hs1.cellsD 0 hkn
      have ht:=take7 0 rfl hkn
      have hm:=mem7 0 hkn
      generalize s.getD k 0 = u at *
      have hno : ¬ NameC u → ¬ NameOk s:=fun h3 h4 => h3 ((hw.1 h4).2.2.2 u hm)
      have hyes : NameC u → ∀ c ∈ s.take (k + 1),NameC c:=fun h3 c h4 => by
        rw [ht,List.mem_append,List.mem_singleton] at h4
        rcases h4 with h4|h4
        · exact hI c h4
        · rw [h4];exact h3
      unfold NameC at hno hyes
      repeat' (first|apply GO_seq|apply GO_skip|apply GO_inBlock|apply GO_block|apply GO_region|apply GOl_nil|(apply GOl_unwanted;exact rfl;exact rfl)|(apply GOl_add;(iterate 3 exact rfl);omega;exact rfl;exact rfl)|(apply GOl_pv;(iterate 3 exact rfl))|(apply GOl_ov;exact rfl;exact rfl;(first|(apply OV_idxS (j:=k);(iterate 5 exact rfl);exact a1;(with_reducible exact rfl);omega)|(apply OV_load;exact rfl;exact Lv_ro rfl cc rfl));exact QA)|(apply GO_cond;exact rfl;all_goals (intro hc;try simp only [hcS,reduceCtorEq] at hc;try (exfalso;omega)))|(apply GOl_split;exact rfl;exact rfl;all_goals (intro hc;try simp only [hcS,reduceCtorEq] at hc;try (exfalso;omega))))
      all_goals first
        | ((first|(apply GO_retV1;(iterate 3 exact rfl)));rw [decide_eq_false];apply hno;omega)
        | (have h3:=ih (k + 1) ⟨by omega,hyes (by omega)⟩ (by omega)
           refine GO_fit QS QT (h3))
    · repeat' (first|apply GO_seq|apply GO_region|apply GOl_nil|(apply GO_exit;exact rfl)|(apply GOl_pv;(iterate 3 exact rfl))|(apply GO_cond;exact rfl;all_goals (intro hc;try simp only [hcS,reduceCtorEq] at hc;try (exfalso;omega)))|(apply GO_retV1;(iterate 3 exact rfl)))
      rw [List.take_of_length_le (by omega)] at hI
      rw [decide_eq_true];exact hw.2 ⟨by omega,by omega,⟨by omega,by omega⟩,hI⟩
open Classical in
theorem sheet1_c (h : Ro) (A : Option Addr) (n c : Nat) (xs : List Int) (hx : SlOf encI 1 h A n xs) (hn : n ≤ 9223372036854775807) :
    Val Tryz.prog 155 #[.slice A n c] h (.bool (decide (SquadOk xs))):=by
  refine Val_intro (args:=[_]) ts_ok Go.Proofs.Tryz.func155 rfl rfl fun w0 X0 => ?_
  repeat' (first|apply GO_seq|apply GO_region|apply GOl_nil|(apply GOl_unwanted;exact rfl;exact rfl)|(apply GOl_pv;(iterate 3 exact rfl))|(apply GOl_to;(iterate 3 exact rfl);(first|(apply OpTo_val;exact rfl;exact has152;exact all7_c _ _ _ _ xs hx hn 0 40 117 (fun x => decide (Bel x 8192)) has117 (fun h x => player7_c h x);skip)|(apply OpTo_val;exact rfl;exact has153;exact incr7_c _ _ _ _ xs hx hn;skip)))|(apply GOl_split;exact rfl;exact rfl;all_goals (intro hc;try simp only [hcS,reduceCtorEq] at hc;try (exfalso;omega)))|(apply GO_retV1;(iterate 3 exact rfl)))
  all_goals (refine dec_ofV ?_;unfold SquadOk;(try simp only [decide_eq_true_eq] at *);grind)
theorem sheet2_c (h : Ro) (b : Nat) (s : Fsh) (x : FSheet) (hx : SlOf encI 1 h s.asn.A s.asn.n x.asn) (hn : s.asn.n ≤ 9223372036854775807) (hc : CellsAt h ⟨b,0,none⟩ (sheetC s x)) (p : Int) :
    Val Tryz.prog 159 #[.int .i64 p,.pointer (some ⟨b,0,none⟩)] h (.bool (decide (p ∈ x.asn))):=by
  refine Val_intro (args:=[_,_]) ts_ok Go.Proofs.Tryz.func159 rfl rfl fun w0 X0 => ?_
  repeat' (first|apply GO_seq|apply GO_region|apply GOl_nil|(apply GOl_pv;(iterate 3 exact rfl))|(apply GOl_ov;exact rfl;exact rfl;(first|(apply OV_load;exact rfl;first|exact Lv_ro rfl (by assumption) rfl|exact Lv_roF rfl (by assumption) rfl|exact Lv_roF2 rfl (by assumption) rfl|exact Lv_roF3 rfl (by assumption) rfl));exact QA)|(apply GOl_to;(iterate 3 exact rfl);(first|(apply OpTo_val;exact rfl;exact has160;exact con7_c _ _ _ _ _ hx hn _;skip)))|(apply GO_retV1;(iterate 3 exact rfl)))
  all_goals rfl
theorem ShAt.small {h : Ro} {s : Fsh} {x : FSheet} (a : ShAt h s x) (b : ShSm x) : s.hs.n ≤ 9223372036854775807 ∧ s.asn.n ≤ 9223372036854775807 ∧ s.hc.n ≤ 9223372036854775807 ∧ s.ac.n ≤ 9223372036854775807:=by
  have h1:=a.hs.len;have h2:=a.asn.len;have h3:=a.hc.len;have h4:=a.ac.len
  obtain ⟨b1,b2,b3,b4⟩:=b
  omega
theorem anyE {l r : List Int} : (!(l.any fun p => decide (p ∈ r))) = true ↔ ∀ p ∈ l,p ∉ r:=by
  simp
open Classical in
theorem sheet7_c (h : Ro) (s : Fsh) (x : FSheet) (hx : ShAt h s x) (hs : ShSm x) : Val Tryz.prog 109 #[sheetV s x] h (.bool (decide (SheetOk x))):=by
  refine Val_intro (args:=[_]) ts_ok Go.Proofs.Tryz.func109 rfl rfl fun w0 X0 => ?_
  obtain ⟨n1,n2,n3,n4⟩:=hx.small hs
  repeat' (first|apply GO_seq|apply GO_region|apply GOl_nil|(apply GOl_unwanted;exact rfl;exact rfl)|(apply GOl_pv;(iterate 3 exact rfl))|(apply GOl_load;exact rfl;exact Ld_blk rfl QM rfl;exact rfl;exact rfl)|(apply GOl_to;(iterate 3 exact rfl);(first|(apply OpTo_box;exact rfl;intro b;skip)|(apply OpTo_valF (f:=155) (fs:=[]) (cs:=[]);exact rfl;exact rfl;exact has155;first|exact sheet1_c _ _ _ _ x.hs (hx.hs.le (by first|exact Le.refl _|assumption|(repeat (first|assumption|(apply Le.trans;assumption))))) (by omega)|exact sheet1_c _ _ _ _ x.asn (hx.asn.le (by first|exact Le.refl _|assumption|(repeat (first|assumption|(apply Le.trans;assumption))))) (by omega);skip)|(apply OpTo_val;exact rfl;exact has157;first|exact cards7_c _ _ _ _ x.hc (hx.hc.le (by first|exact Le.refl _|assumption|(repeat (first|assumption|(apply Le.trans;assumption))))) (by omega) _ _ _ x.hs (hx.hs.le (by first|exact Le.refl _|assumption|(repeat (first|assumption|(apply Le.trans;assumption))))) (by omega)|exact cards7_c _ _ _ _ x.ac (hx.ac.le (by first|exact Le.refl _|assumption|(repeat (first|assumption|(apply Le.trans;assumption))))) (by omega) _ _ _ x.asn (hx.asn.le (by first|exact Le.refl _|assumption|(repeat (first|assumption|(apply Le.trans;assumption))))) (by omega);skip)|(refine OpTo_relB QK ?_;intro h1 hle1 hc1;apply OpTo_val;exact rfl;exact has158;exact conFI_c h1 _ _ _ x.hs (hx.hs.le hle1) (by omega) 159 [] [.pointer (some ⟨_,0,none⟩)] (fun p => decide (p ∈ x.asn)) has159 (fun p _ => sheet2_c h1 _ s x (hx.asn.le hle1) (by omega) hc1 p);skip)|(apply OpTo_val;exact rfl;exact has105;exact game7_c _ _;skip)|(apply OpTo_val;exact rfl;exact has106;exact below7_c _ _ _;skip)|(apply OpTo_val;exact rfl;exact has156;exact goals7_c _ _;skip)))|(apply GOl_split;exact rfl;exact rfl;all_goals (intro hc;try simp only [hcS,reduceCtorEq] at hc;try (exfalso;omega))))
  all_goals (first|(apply GO_retV1;(iterate 3 exact rfl)))
  all_goals (clear hx hs n1 n2 n3 n4;refine dec_ofV ?_;try rw [anyE])
  all_goals (unfold SheetOk;grind)
theorem all192 (xs : List Int) (lo hi : Int) : (decide (lo ≤ (xs.length : Int) ∧ (xs.length : Int) ≤ hi ∧ ∀ x ∈ xs,(fun x => decide (Bel x 192)) x = true)) = decide (lo ≤ (xs.length : Int) ∧ (xs.length : Int) ≤ hi ∧ ∀ x ∈ xs,Bel x 192):=by
  rw [decide_eq_decide];simp
open Classical in
theorem entrants7_c (h : Ro) (s : Fsh) (x : Fct) (hx : SlOf encI 1 h s.cl.A s.cl.n x.eClubs) (hn : s.cl.n ≤ 9223372036854775807) (hr : x.eRules.length ≤ 9223372036854775807) : Val Tryz.prog 102 #[entV7 s x] h (.bool (decide (EntOk x))):=by
  refine Val_intro (args:=[_]) ts_ok Go.Proofs.Tryz.func102 rfl rfl fun w0 X0 => ?_
  have hlen:=hx.len
  repeat' (first|apply GO_seq|apply GO_region|apply GOl_nil|(apply GOl_unwanted;exact rfl;exact rfl)|(apply GOl_pv;(iterate 3 exact rfl))|(apply GOl_load;exact rfl;exact Ld_blk rfl QM rfl;exact rfl;exact rfl)|(apply GOl_to;(iterate 3 exact rfl);(first|(apply OpTo_box;exact rfl;intro b;skip)|(apply OpTo_val;exact rfl;exact has152;exact all192 _ _ _ ▸ all7_c _ _ _ _ x.eClubs hx hn 2 24 118 (fun x => decide (Bel x 192)) has118 (fun h x => club7_c h x);skip)|(apply OpTo_val;exact rfl;exact has153;exact incr7_c _ _ _ _ x.eClubs hx hn;skip)|(apply OpTo_val;exact rfl;exact has154;exact name7_c _ x.eRules hr;skip)|(apply OpTo_val;exact rfl;exact has151;exact contest7_c _ _ _;skip)))|(apply GOl_split;exact rfl;exact rfl;all_goals (intro hc;try simp only [hcS,reduceCtorEq] at hc;try (exfalso;omega))))
  all_goals (first|(apply GO_retV1;(iterate 3 exact rfl)))
  all_goals (clear hx hn hr;refine dec_ofV ?_)
  all_goals (try rw [str_toList,show (⟨#[]⟩ : ByteArray).toList = [] from str_toList [],beq_iff_eq])
  all_goals (unfold EntOk;grind)
theorem K7 : KeyT Tryz.prog 3 (fun i : Int => .int .i64 i):=by
  obtain ⟨D,h1,h2⟩:=ts_ok.und (show tyOf 3 _ = some _ from rfl)
  exact KeyT.int (by rw [h1,blank_int h2])
def met (l : List Int) : List (Int × Bool):=l.foldl (fun m x => insA x true m) []
theorem met_snoc (l : List Int) (x : Int) : met (l ++ [x]) = insA x true (met l):=by
  simp [met,List.foldl_append]
theorem insA_len {x : Int} : ∀ (m : List (Int × Bool)),(insA x true m).length = if x ∈ m.map (·.1) then m.length else m.length + 1
  | [] => by simp [insA]
  | (y,b) :: r => by
    have ih:=insA_len (x:=x) r
    by_cases h : y = x
    · subst h;simp [insA]
    · simp only [insA,if_neg h,List.length_cons,ih,List.map_cons,List.mem_cons,show ¬ x = y from fun e => h e.symm,false_or]
      split <;> rfl
theorem insA_keys {x : Int} : ∀ (m : List (Int × Bool)) (z : Int),z ∈ (insA x true m).map (·.1) ↔ z = x ∨ z ∈ m.map (·.1)
  | [],z => by simp [insA]
  | (y,b) :: r,z => by
    have ih:=insA_keys (x:=x) r z
    by_cases h : y = x
    · subst h
      simp [insA]
    · simp only [insA,if_neg h,List.map_cons,List.mem_cons,ih]
      constructor
      · rintro (h1|h1|h1)
        · exact .inr (.inl h1)
        · exact .inl h1
        · exact .inr (.inr h1)
      · rintro (h1|h1|h1)
        · exact .inr (.inl h1)
        · exact .inl h1
        · exact .inr (.inr h1)
theorem met_spec (l : List Int) : (∀ z,z ∈ (met l).map (·.1) ↔ z ∈ l) ∧ (met l).length ≤ l.length ∧ ((met l).length = l.length ↔ l.Nodup):=by
  have key : ∀ n,n ≤ l.length → (∀ z,z ∈ (met (l.take n)).map (·.1) ↔ z ∈ l.take n) ∧ (met (l.take n)).length ≤ n ∧ ((met (l.take n)).length = n ↔ (l.take n).Nodup):=by
    intro n
    induction n with
    | zero => intro _;simp [met]
    | succ n ih =>
      intro hn
      obtain ⟨h1,h2,h3⟩:=ih (by omega)
      have ht:=take7 0 (xs:=l) rfl (show n < l.length by omega)
      have hl : (l.take n).length = n:=by rw [List.length_take];omega
      rw [ht,met_snoc]
      generalize l.getD n 0 = x at *
      refine ⟨fun z => ?_,?_,?_⟩
      · rw [insA_keys,h1,List.mem_append,List.mem_singleton];exact Or.comm
      · rw [insA_len];split <;> omega
      · rw [insA_len,List.nodup_append]
        simp only [h1]
        split
        · rename_i hx
          constructor
          · intro h;omega
          · rintro ⟨_,_,h⟩;exact absurd rfl (h x hx x (by simp))
        · rename_i hx
          rw [show (met (l.take n)).length + 1 = n + 1 ↔ (met (l.take n)).length = n from by omega,h3]
          constructor
          · intro h
            refine ⟨h,by simp,fun a ha b hb => ?_⟩
            rw [List.mem_singleton] at hb;subst hb;intro e;subst e;exact hx ha
          · exact fun h => h.1
  have:=key l.length (Nat.le_refl _)
  rwa [List.take_length] at this
open Classical in
theorem lot7_c (h : Ro) (s : Fsh) (x : Fct) (hx : SlOf encI 1 h s.lo.A s.lo.n x.lO) (hn : s.lo.n ≤ 9223372036854775807) : Val Tryz.prog 121 #[lotV s x] h (.bool (decide (LotOk x))):=by
  refine Val_intro (args:=[_]) ts_ok Go.Proofs.Tryz.func121 rfl rfl fun w0 X0 => ?_
  have hlen:=hx.len
  repeat' (first|apply GO_seq|apply GO_block|apply GO_region|apply GOl_nil|(apply GOl_pv;(iterate 3 exact rfl))|(apply GOl_load;exact rfl;exact Ld_blk rfl QM rfl;exact rfl;exact rfl)|(apply GOl_to;(iterate 3 exact rfl);(first|(apply OpTo_box;exact rfl;intro b;skip)|(apply OpTo_makeMap (fun i : Int => .int .i64 i) Value.bool;intro bm;skip))))
  generalize b = b0
  refine GO_loopT (X:=Nat) (fun k => k ≤ s.lo.n) (fun k => s.lo.n - k) (fun k => [(10,.int .i64 k),(9,.int .i64 s.lo.n),(8,.slice s.lo.A s.lo.n s.lo.c),(3,.map (some bm)),(1,.pointer (some ⟨b0,0,none⟩))])
    (fun k => [MapA (fun i : Int => .int .i64 i) Value.bool bm (met (x.lO.take k)),Blk b0 56 (partL (lotV s x))]) (fun _ => h) 0 (by omega) QS QT rfl ?_
  rintro k hk ih
  by_cases hkn : k < s.lo.n
  · have a1:=hx.addrD hkn
    have c1:=hx.cellsD 0 hkn
    have ht : met (x.lO.take (k + 1)) = insA (x.lO.getD k 0) true (met (x.lO.take k)):=by rw [take7 0 hlen hkn,met_snoc]
    generalize x.lO.getD k 0 = u at *
    repeat' (first|apply GO_seq|apply GO_skip|apply GO_inBlock|apply GO_block|apply GO_region|apply GOl_nil|(apply GOl_add;(iterate 3 exact rfl);omega;exact rfl;exact rfl)|(apply GOl_pv;(iterate 3 exact rfl))|(apply GOl_ov;exact rfl;exact rfl;(first|(apply OV_idxS (j:=k);(iterate 5 exact rfl);exact a1;(with_reducible exact rfl);omega)|(apply OV_load;exact rfl;exact Lv_ro rfl c1 rfl));exact QA)|(apply GOl_to;(iterate 3 exact rfl);(first|(apply OpTo_mapUpdate (ek:=fun i : Int => .int .i64 i) (ev:=Value.bool) (b:=bm) (m:=met (x.lO.take k)) (key:=u) (u:=true) K7;(iterate 6 exact rfl);rw [← ht];exact QR;skip)))|(apply GO_cond;exact rfl;all_goals (intro hc;try simp only [hcS,reduceCtorEq] at hc;try (exfalso;omega))))
    have h3:=ih (k + 1) (by omega) (by omega)
    refine GO_fit QS QT (h3)
  · rw [List.take_of_length_le (by omega)]
    clear ih
    have hm:=met_spec x.lO
    generalize met x.lO = mt at *
    repeat' (first|apply GO_seq|apply GO_region|apply GOl_nil|(apply GO_exit;exact rfl)|(apply GOl_unwanted;exact rfl;exact rfl)|(apply GOl_pv;(iterate 3 exact rfl))|(apply GOl_load;exact rfl;exact Ld_blk rfl QM rfl;exact rfl;exact rfl)|(apply GOl_ov;exact rfl;exact rfl;(first|(apply OV_lenMap (ek:=fun i : Int => .int .i64 i) (ev:=Value.bool) (b:=bm) (m:=mt);(iterate 3 exact rfl)));exact QA)|(apply GOl_to;(iterate 3 exact rfl);(first|(apply OpTo_val;exact rfl;exact has152;exact all192 _ _ _ ▸ all7_c _ _ _ _ x.lO hx hn 2 24 118 (fun x => decide (Bel x 192)) has118 (fun h x => club7_c h x);skip)|(apply OpTo_val;exact rfl;exact has151;exact contest7_c _ _ _;skip)))|(apply GO_cond;exact rfl;all_goals (intro hc;try simp only [hcS,reduceCtorEq] at hc;try (exfalso;omega)))|(apply GOl_split;exact rfl;exact rfl;all_goals (intro hc;try simp only [hcS,reduceCtorEq] at hc;try (exfalso;omega))))
    all_goals (first|(apply GO_retV1;(iterate 3 exact rfl)))
    all_goals (refine dec_ofV ?_;unfold LotOk;try rw [eqI_t])
    all_goals (clear hx;grind)
end Go.Hw
set_option linter.unusedVariables false
set_option linter.unusedSimpArgs false
set_option maxRecDepth 100000
set_option maxHeartbeats 4000000
namespace Go.Hw
open Go
attribute [local irreducible] GO GOl GDp Val Fn Res CellsAt ValE Blk OwnS MapA OwnPf Has
open Go.Proofs (Tryz.prog)
def fixC (g : FGame) (v : Int) : List Value:=[.int .i64 g.s,.int .i64 g.c,.int .i64 g.h,.int .i64 g.a,.int .i64 v]
def appC (x : Fct) : List Value:=[.int .i64 x.aCase,.int .i64 x.aInst,.bool x.aSusp]
def movC (x : Fct) : List Value:=[.int .i64 x.mP,.int .i64 x.mTo]
theorem game_ext {a b : FGame} : a = b ↔ a.s = b.s ∧ a.c = b.c ∧ a.h = b.h ∧ a.a = b.a:=by
  cases a;cases b;simp
theorem rul_ext {a b : FRul} : a = b ↔ a.case = b.case ∧ a.inst = b.inst ∧ a.kind = b.kind ∧ a.g = b.g ∧ a.club = b.club ∧ a.player = b.player ∧ a.season = b.season ∧ a.comp = b.comp ∧ a.points = b.points ∧ a.amount = b.amount ∧ a.hg = b.hg ∧ a.ag = b.ag ∧ a.lo = b.lo ∧ a.hi = b.hi:=by
  cases a;cases b;simp
theorem sheet_ext {a b : FSheet} : a = b ↔ a.g = b.g ∧ a.ref = b.ref ∧ a.hg = b.hg ∧ a.ag = b.ag ∧ a.hp = b.hp ∧ a.ap = b.ap ∧ a.hs = b.hs ∧ a.asn = b.asn ∧ a.hc = b.hc ∧ a.ac = b.ac:=by
  cases a;cases b;simp
theorem fct_ext {a b : Fct} : a = b ↔ a.kind = b.kind ∧ a.day = b.day ∧ a.known = b.known ∧ (a.fg = b.fg ∧ a.venue = b.venue) ∧ a.ru = b.ru ∧ (a.aCase = b.aCase ∧ a.aInst = b.aInst ∧ a.aSusp = b.aSusp) ∧ (a.mP = b.mP ∧ a.mTo = b.mTo) ∧ a.void = b.void ∧
    a.eS = b.eS ∧ a.eC = b.eC ∧ a.eRules = b.eRules ∧ a.eClubs = b.eClubs ∧ a.lS = b.lS ∧ a.lC = b.lC ∧ a.lO = b.lO ∧ a.sh = b.sh:=by
  cases a;cases b;simp;grind
theorem game_eq (a b : FGame) : eqD ts 10 28 (.agg (gameC a).toArray) (.agg (gameC b).toArray) = some (decide (a = b)):=by
  have e : eqD ts 10 28 (.agg (gameC a).toArray) (.agg (gameC b).toArray) = some (eqI a.s b.s && (eqI a.c b.c && (eqI a.h b.h && (eqI a.a b.a && true)))):=rfl
  rw [e];congr 1;refine dec_of ?_;rw [game_ext];simp only [Bool.and_eq_true,eqI_t,and_true]
theorem fix_eq (a b : FGame) (u v : Int) : eqD ts 10 46 (.agg (fixC a u).toArray) (.agg (fixC b v).toArray) = some (decide (a = b ∧ u = v)):=by
  have e : eqD ts 10 46 (.agg (fixC a u).toArray) (.agg (fixC b v).toArray) = some ((eqI a.s b.s && (eqI a.c b.c && (eqI a.h b.h && (eqI a.a b.a && true)))) && (eqI u v && true)):=rfl
  rw [e];congr 1;refine dec_of ?_;rw [game_ext];simp only [Bool.and_eq_true,eqI_t,and_true]
theorem rul_eq (a b : FRul) : eqD ts 10 50 (.agg (rulC a).toArray) (.agg (rulC b).toArray) = some (decide (a = b)):=by
  have e : eqD ts 10 50 (.agg (rulC a).toArray) (.agg (rulC b).toArray) = some (eqI a.case b.case && (eqI a.inst b.inst && (eqI a.kind b.kind && ((eqI a.g.s b.g.s && (eqI a.g.c b.g.c && (eqI a.g.h b.g.h && (eqI a.g.a b.g.a && true)))) && (eqI a.club b.club && (eqI a.player b.player &&
    (eqI a.season b.season && (eqI a.comp b.comp && (eqI a.points b.points && (eqI a.amount b.amount && (eqI a.hg b.hg && (eqI a.ag b.ag && ((eqI a.lo b.lo && (eqI a.hi b.hi && true)) && true))))))))))))):=rfl
  rw [e];congr 1;refine dec_of ?_;rw [rul_ext,game_ext];simp only [Bool.and_eq_true,eqI_t,and_true]
theorem app_eq (a b : Fct) : eqD ts 10 52 (.agg (appC a).toArray) (.agg (appC b).toArray) = some (decide (a.aCase = b.aCase ∧ a.aInst = b.aInst ∧ a.aSusp = b.aSusp)):=by
  have e : eqD ts 10 52 (.agg (appC a).toArray) (.agg (appC b).toArray) = some (eqI a.aCase b.aCase && (eqI a.aInst b.aInst && ((a.aSusp == b.aSusp) && true))):=rfl
  rw [e];congr 1;refine dec_of ?_;simp only [Bool.and_eq_true,eqI_t,and_true,beq_iff_eq]
theorem mov_eq (a b : Fct) : eqD ts 10 54 (.agg (movC a).toArray) (.agg (movC b).toArray) = some (decide (a.mP = b.mP ∧ a.mTo = b.mTo)):=by
  have e : eqD ts 10 54 (.agg (movC a).toArray) (.agg (movC b).toArray) = some (eqI a.mP b.mP && (eqI a.mTo b.mTo && true)):=rfl
  rw [e];congr 1;refine dec_of ?_;simp only [Bool.and_eq_true,eqI_t,and_true]
def eqBy (a b : List UInt8) : List Nat → Bool
  | [] => true
  | i :: r => eqI ((a.getD i 0).toNat : Int) ((b.getD i 0).toNat : Int) && eqBy a b r
theorem eqBy_iff (a b : List UInt8) : ∀ l,eqBy a b l = true ↔ ∀ i ∈ l,a.getD i 0 = b.getD i 0
  | [] => by simp [eqBy]
  | i :: r => by
    rw [eqBy,Bool.and_eq_true,eqI_t,eqBy_iff a b r,List.forall_mem_cons]
    refine and_congr ⟨fun h => ?_,fun h => by rw [h]⟩ Iff.rfl
    exact UInt8.toNat_inj.1 (by omega)
theorem void_eq (a b : List UInt8) (ha : a.length = 32) (hb : b.length = 32) : eqV ts 10 58 (.agg (voidC a).toArray) (.agg (voidC b).toArray) = some (decide (a = b)):=by
  have e : eqV ts 10 58 (.agg (voidC a).toArray) (.agg (voidC b).toArray) = some (eqBy a b (List.range 32)):=rfl
  rw [e];congr 1;refine dec_of ?_
  rw [eqBy_iff]
  constructor
  · intro h
    refine List.ext_getElem (by omega) fun i h1 h2 => ?_
    have:=h i (by rw [List.mem_range];omega)
    simpa [List.getD,List.getElem?_eq_getElem h1,List.getElem?_eq_getElem h2] using this
  · rintro rfl i _;rfl
theorem FAt.small {h : Ro} {s : Fsh} {x : Fct} (a : FAt h s x) (b : FSm x) : s.hs.n ≤ 9223372036854775807 ∧ s.asn.n ≤ 9223372036854775807 ∧ s.hc.n ≤ 9223372036854775807 ∧ s.ac.n ≤ 9223372036854775807 ∧ s.cl.n ≤ 9223372036854775807 ∧ s.lo.n ≤ 9223372036854775807:=by
  have h1:=a.sh.hs.len;have h2:=a.sh.asn.len;have h3:=a.sh.hc.len;have h4:=a.sh.ac.len;have h5:=a.cl.len;have h6:=a.lo.len
  obtain ⟨⟨b1,b2,b3,b4⟩,b5,b6,b7⟩:=b
  omega
theorem same7_c (h : Ro) (s : Fsh) (x : Fct) (hx : FAt h s x) (hxs : FSm x) (t : Fsh) (y : Fct) (hy : FAt h t y) (hys : FSm y) : Val Tryz.prog 65 #[factV s x,factV t y] h (.bool (decide (x = y))):=by
  refine Val_intro (args:=[_,_]) ts_ok Go.Proofs.Tryz.func65 rfl rfl fun w0 X0 => ?_
  obtain ⟨n1,n2,n3,n4,n5,n6⟩:=hx.small hxs
  obtain ⟨m1,m2,m3,m4,m5,m6⟩:=hy.small hys
  repeat' (first|apply GO_seq|apply GO_region|apply GOl_nil|(apply GOl_unwanted;exact rfl;exact rfl)|(apply GOl_pv;(iterate 3 exact rfl))|(apply GOl_load;exact rfl;exact Ld_blk rfl QM rfl;exact rfl;exact rfl)|(apply GOl_ov;exact rfl;exact rfl;(first|(apply OV_eqlS;exact rfl;exact rfl;(first|exact game_eq _ _|exact fix_eq _ _ _ _|exact rul_eq _ _|exact app_eq x y|exact mov_eq x y);kernel_rfl;kernel_rfl)|(apply OV_eqlV;exact rfl;exact rfl;exact void_eq x.void y.void hx.void hy.void;kernel_rfl;kernel_rfl));exact QA)|(apply GOl_to;(iterate 3 exact rfl);(first|(apply OpTo_box;exact rfl;intro b;skip)|(apply OpTo_val;exact rfl;exact has60;first|exact equalI_c _ _ _ _ x.eClubs (hx.cl.le (by first|exact Le.refl _|assumption|(repeat (first|assumption|(apply Le.trans;assumption))))) (by omega) _ _ _ y.eClubs (hy.cl.le (by first|exact Le.refl _|assumption|(repeat (first|assumption|(apply Le.trans;assumption))))) (by omega)|exact equalI_c _ _ _ _ x.lO (hx.lo.le (by first|exact Le.refl _|assumption|(repeat (first|assumption|(apply Le.trans;assumption))))) (by omega) _ _ _ y.lO (hy.lo.le (by first|exact Le.refl _|assumption|(repeat (first|assumption|(apply Le.trans;assumption))))) (by omega)|exact equalI_c _ _ _ _ x.sh.hs (hx.sh.hs.le (by first|exact Le.refl _|assumption|(repeat (first|assumption|(apply Le.trans;assumption))))) (by omega) _ _ _ y.sh.hs (hy.sh.hs.le (by first|exact Le.refl _|assumption|(repeat (first|assumption|(apply Le.trans;assumption))))) (by omega)|exact equalI_c _ _ _ _ x.sh.asn (hx.sh.asn.le (by first|exact Le.refl _|assumption|(repeat (first|assumption|(apply Le.trans;assumption))))) (by omega) _ _ _ y.sh.asn (hy.sh.asn.le (by first|exact Le.refl _|assumption|(repeat (first|assumption|(apply Le.trans;assumption))))) (by omega);skip)|(apply OpTo_val;exact rfl;exact has61;first|exact equalC_c _ _ _ _ x.sh.hc (hx.sh.hc.le (by first|exact Le.refl _|assumption|(repeat (first|assumption|(apply Le.trans;assumption))))) (by omega) _ _ _ y.sh.hc (hy.sh.hc.le (by first|exact Le.refl _|assumption|(repeat (first|assumption|(apply Le.trans;assumption))))) (by omega)|exact equalC_c _ _ _ _ x.sh.ac (hx.sh.ac.le (by first|exact Le.refl _|assumption|(repeat (first|assumption|(apply Le.trans;assumption))))) (by omega) _ _ _ y.sh.ac (hy.sh.ac.le (by first|exact Le.refl _|assumption|(repeat (first|assumption|(apply Le.trans;assumption))))) (by omega);skip)))|(apply GO_drawp (n:=1) [0,1,4,5,6,2,3,7] [(0,0),(1,0),(2,0),(3,0),(4,2),(3,5),(5,1),(6,1),(7,1),(4,1),(6,1),(7,1)];kernel_rfl)|(apply GP_pv;exact rfl;kernel_rfl;(iterate 3 exact rfl))|(apply GP_loadB;exact rfl;kernel_rfl;(iterate 3 exact rfl);exact QM;exact rfl;exact rfl)|(apply GP_real;exact rfl;kernel_rfl;(iterate 3 exact rfl);(first|(apply OpTo_store;(iterate 3 exact rfl);exact QR;(iterate 3 exact rfl);refine ⟨Le.refl _,QN,?_⟩)|(apply OpTo_alloc;exact rfl;intro b;refine ⟨Le.refl _,QN,?_⟩)))|(apply GP_two;kernel_rfl;exact rfl;exact rfl)|(apply RealP_intro;(iterate 4 exact rfl);(first|(apply OpTo_alloc;exact rfl;intro b;refine ⟨Le.refl _,QN,?_⟩)))|(apply GP_done;kernel_rfl;exact rfl)|(apply GOl_split;exact rfl;exact rfl;all_goals (intro hc;try simp only [hcS,reduceCtorEq] at hc;try (exfalso;omega))))
  all_goals (first|(apply GO_retV1;(iterate 3 exact rfl)))
  all_goals (clear hx hxs hy hys;refine dec_ofV ?_;(try simp only [str_toList,beq_iff_eq] at *))
  all_goals (rw [fct_ext,sheet_ext];grind)
end Go.Hw
set_option linter.unusedVariables false
set_option linter.unusedSimpArgs false
set_option maxRecDepth 100000
set_option maxHeartbeats 4000000
namespace Go.Hw
open Go
attribute [local irreducible] GO GOl GDp Val Fn Res CellsAt ValE Blk OwnS MapA OwnPf Has
open Go.Proofs (Tryz.prog)
instance (a b : Int) : Decidable (DaysOk a b):=by unfold DaysOk;infer_instance
theorem okI {p : Prop} [Decidable p] {e : Int} (he : e ≠ 0) : eqI (if p then 0 else e) 0 = decide p:=by
  rw [eqI_eq,decide_eq_decide];split <;> simp_all
def ivlC (a b : Int) : List Value:=[.int .i64 a,.int .i64 b]
theorem valid7_c (h : Ro) (n : Int) : Val Tryz.prog 208 #[.int .i64 n] h (.bool (decide (0 ≤ n ∧ n ≤ 1048576))):=by
  refine Val_intro (args:=[_]) ts_ok Go.Proofs.Tryz.func208 rfl rfl fun w0 X0 => ?_
  repeat' (first|apply GO_seq|apply GO_region|apply GOl_nil|(apply GOl_unwanted;exact rfl;exact rfl)|(apply GOl_pv;(iterate 3 exact rfl))|(apply GOl_split;exact rfl;exact rfl;all_goals (intro hc;try simp only [hcS,reduceCtorEq] at hc;try (exfalso;omega)))|(apply GO_retV1;(iterate 3 exact rfl)))
  all_goals (refine dec_ofV ?_;(try rw [leI_t]);grind)
theorem cal7_c (h : Ro) (a b : Int) : Val Tryz.prog 187 #[.agg (ivlC a b).toArray] h (.int .i64 (if DaysOk a b then 0 else 10)):=by
  refine Val_intro (args:=[_]) ts_ok Go.Proofs.Tryz.func187 rfl rfl fun w0 X0 => ?_
  repeat' (first|apply GO_seq|apply GO_skip|apply GO_region|apply GOl_nil|(apply GOl_unwanted;exact rfl;exact rfl)|(apply GOl_pv;(iterate 3 exact rfl))|(apply GOl_load;exact rfl;exact Ld_blk rfl QM rfl;exact rfl;exact rfl)|(apply GOl_to;(iterate 3 exact rfl);(first|(apply OpTo_box;exact rfl;intro b;skip)|(apply OpTo_val;exact rfl;exact has208;exact valid7_c _ _;skip)))|(apply GO_cond;exact rfl;all_goals (intro hc;try simp only [hcS,reduceCtorEq] at hc;try (exfalso;omega)))|(apply GOl_split;exact rfl;exact rfl;all_goals (intro hc;try simp only [hcS,reduceCtorEq] at hc;try (exfalso;omega)))|(apply GO_retV1;(iterate 3 exact rfl)))
  all_goals (first|(rw [if_pos (show DaysOk _ _ from by unfold DaysOk;omega)];done)|(rw [if_neg (show ¬ DaysOk _ _ from by unfold DaysOk;omega)];done))
theorem rk1_c (h : Ro) (r : FRul) : Val Tryz.prog 185 #[rulV r] h (.bool (decide (GameOk r.g))):=by
  refine Val_intro (args:=[_]) ts_ok Go.Proofs.Tryz.func185 rfl rfl fun w0 X0 => ?_
  repeat' (first|apply GO_seq|apply GO_region|apply GOl_nil|(apply GOl_pv;(iterate 3 exact rfl))|(apply GOl_load;exact rfl;exact Ld_blk rfl QM rfl;exact rfl;exact rfl)|(apply GOl_to;(iterate 3 exact rfl);(first|(apply OpTo_box;exact rfl;intro b;skip)|(apply OpTo_val;exact rfl;exact has105;exact game7_c _ r.g;skip)))|(apply GO_retV1;(iterate 3 exact rfl)))
  all_goals (rw [okI (by decide)])
theorem rk2_c (h : Ro) (r : FRul) : Val Tryz.prog 186 #[rulV r] h (.bool (decide (DaysOk r.lo r.hi))):=by
  refine Val_intro (args:=[_]) ts_ok Go.Proofs.Tryz.func186 rfl rfl fun w0 X0 => ?_
  repeat' (first|apply GO_seq|apply GO_region|apply GOl_nil|(apply GOl_pv;(iterate 3 exact rfl))|(apply GOl_load;exact rfl;exact Ld_blk rfl QM rfl;exact rfl;exact rfl)|(apply GOl_to;(iterate 3 exact rfl);(first|(apply OpTo_box;exact rfl;intro b;skip)|(apply OpTo_val;exact rfl;exact has187;exact cal7_c _ r.lo r.hi;skip)))|(apply GO_retV1;(iterate 3 exact rfl)))
  all_goals (rw [okI (by decide)])
def GameB (h : Ro) (b : Nat) : Prop:=CellsAt h ⟨b,0,none⟩ [.func (.func 185) #[] #[]]
def DaysB (h : Ro) (b : Nat) : Prop:=CellsAt h ⟨b,0,none⟩ [.func (.func 186) #[] #[]]
theorem rk3_c (h : Ro) (b : Nat) (hb : GameB h b) (r : FRul) : Val Tryz.prog 188 #[rulV r,.pointer (some ⟨b,0,none⟩)] h (.bool (decide (GameOk r.g ∧ (r.club = r.g.h ∨ r.club = r.g.a)))):=by
  refine Val_intro (args:=[_,_]) ts_ok Go.Proofs.Tryz.func188 rfl rfl fun w0 X0 => ?_
  unfold GameB at hb
  repeat' (first|apply GO_seq|apply GO_region|apply GOl_nil|(apply GOl_unwanted;exact rfl;exact rfl)|(apply GOl_pv;(iterate 3 exact rfl))|(apply GOl_load;exact rfl;exact Ld_blk rfl QM rfl;exact rfl;exact rfl)|(apply GOl_ov;exact rfl;exact rfl;(first|(apply OV_load;exact rfl;first|exact Lv_ro rfl (by assumption) rfl|exact Lv_roF rfl (by assumption) rfl|exact Lv_roF2 rfl (by assumption) rfl|exact Lv_roF3 rfl (by assumption) rfl));exact QA)|(apply GOl_to;(iterate 3 exact rfl);(first|(apply OpTo_box;exact rfl;intro b;skip)|(apply OpTo_valF (f:=185) (fs:=[]) (cs:=[]);exact rfl;exact rfl;exact has185;exact rk1_c _ r;skip)))|(apply GOl_split;exact rfl;exact rfl;all_goals (intro hc;try simp only [hcS,reduceCtorEq] at hc;try (exfalso;omega)))|(apply GO_retV1;(iterate 3 exact rfl)))
  all_goals (refine dec_ofV ?_;(try rw [eqI_t]);grind)
theorem rk6_c (h : Ro) (b : Nat) (hb : GameB h b) (r : FRul) : Val Tryz.prog 191 #[rulV r,.pointer (some ⟨b,0,none⟩)] h (.bool (decide (GameOk r.g ∧ Bel r.hg 100 ∧ Bel r.ag 100))):=by
  refine Val_intro (args:=[_,_]) ts_ok Go.Proofs.Tryz.func191 rfl rfl fun w0 X0 => ?_
  unfold GameB at hb
  repeat' (first|apply GO_seq|apply GO_region|apply GOl_nil|(apply GOl_unwanted;exact rfl;exact rfl)|(apply GOl_pv;(iterate 3 exact rfl))|(apply GOl_load;exact rfl;exact Ld_blk rfl QM rfl;exact rfl;exact rfl)|(apply GOl_ov;exact rfl;exact rfl;(first|(apply OV_load;exact rfl;first|exact Lv_ro rfl (by assumption) rfl|exact Lv_roF rfl (by assumption) rfl|exact Lv_roF2 rfl (by assumption) rfl|exact Lv_roF3 rfl (by assumption) rfl));exact QA)|(apply GOl_to;(iterate 3 exact rfl);(first|(apply OpTo_box;exact rfl;intro b;skip)|(apply OpTo_valF (f:=185) (fs:=[]) (cs:=[]);exact rfl;exact rfl;exact has185;exact rk1_c _ r;skip)|(apply OpTo_val;exact rfl;exact has156;exact goals7_c _ _;skip)))|(apply GOl_split;exact rfl;exact rfl;all_goals (intro hc;try simp only [hcS,reduceCtorEq] at hc;try (exfalso;omega)))|(apply GO_retV1;(iterate 3 exact rfl)))
  all_goals (refine dec_ofV ?_;grind)
theorem rk8_c (h : Ro) (r : FRul) : Val Tryz.prog 193 #[rulV r] h (.bool (decide (Bel r.club 192 ∧ Bel r.season 64 ∧ Bel r.comp 16 ∧ 1 ≤ r.points ∧ r.points ≤ 99))):=by
  refine Val_intro (args:=[_]) ts_ok Go.Proofs.Tryz.func193 rfl rfl fun w0 X0 => ?_
  repeat' (first|apply GO_seq|apply GO_region|apply GOl_nil|(apply GOl_unwanted;exact rfl;exact rfl)|(apply GOl_pv;(iterate 3 exact rfl))|(apply GOl_load;exact rfl;exact Ld_blk rfl QM rfl;exact rfl;exact rfl)|(apply GOl_to;(iterate 3 exact rfl);(first|(apply OpTo_box;exact rfl;intro b;skip)|(apply OpTo_val;exact rfl;exact has118;exact club7_c _ _;skip)|(apply OpTo_val;exact rfl;exact has151;exact contest7_c _ _ _;skip)))|(apply GOl_split;exact rfl;exact rfl;all_goals (intro hc;try simp only [hcS,reduceCtorEq] at hc;try (exfalso;omega)))|(apply GO_retV1;(iterate 3 exact rfl)))
  all_goals (refine dec_ofV ?_;(try rw [leI_t]);grind)
theorem rk10_c (h : Ro) (b : Nat) (hb : DaysB h b) (r : FRul) : Val Tryz.prog 195 #[rulV r,.pointer (some ⟨b,0,none⟩)] h (.bool (decide (Bel r.club 192 ∧ DaysOk r.lo r.hi))):=by
  refine Val_intro (args:=[_,_]) ts_ok Go.Proofs.Tryz.func195 rfl rfl fun w0 X0 => ?_
  unfold DaysB at hb
  repeat' (first|apply GO_seq|apply GO_region|apply GOl_nil|(apply GOl_unwanted;exact rfl;exact rfl)|(apply GOl_pv;(iterate 3 exact rfl))|(apply GOl_load;exact rfl;exact Ld_blk rfl QM rfl;exact rfl;exact rfl)|(apply GOl_ov;exact rfl;exact rfl;(first|(apply OV_load;exact rfl;first|exact Lv_ro rfl (by assumption) rfl|exact Lv_roF rfl (by assumption) rfl|exact Lv_roF2 rfl (by assumption) rfl|exact Lv_roF3 rfl (by assumption) rfl));exact QA)|(apply GOl_to;(iterate 3 exact rfl);(first|(apply OpTo_box;exact rfl;intro b;skip)|(apply OpTo_valF (f:=186) (fs:=[]) (cs:=[]);exact rfl;exact rfl;exact has186;exact rk2_c _ r;skip)|(apply OpTo_val;exact rfl;exact has118;exact club7_c _ _;skip)))|(apply GOl_split;exact rfl;exact rfl;all_goals (intro hc;try simp only [hcS,reduceCtorEq] at hc;try (exfalso;omega)))|(apply GO_retV1;(iterate 3 exact rfl)))
  all_goals (refine dec_ofV ?_;grind)
theorem rk12_c (h : Ro) (b : Nat) (hb : DaysB h b) (r : FRul) : Val Tryz.prog 197 #[rulV r,.pointer (some ⟨b,0,none⟩)] h (.bool (decide (Bel r.player 8192 ∧ DaysOk r.lo r.hi))):=by
  refine Val_intro (args:=[_,_]) ts_ok Go.Proofs.Tryz.func197 rfl rfl fun w0 X0 => ?_
  unfold DaysB at hb
  repeat' (first|apply GO_seq|apply GO_region|apply GOl_nil|(apply GOl_unwanted;exact rfl;exact rfl)|(apply GOl_pv;(iterate 3 exact rfl))|(apply GOl_load;exact rfl;exact Ld_blk rfl QM rfl;exact rfl;exact rfl)|(apply GOl_ov;exact rfl;exact rfl;(first|(apply OV_load;exact rfl;first|exact Lv_ro rfl (by assumption) rfl|exact Lv_roF rfl (by assumption) rfl|exact Lv_roF2 rfl (by assumption) rfl|exact Lv_roF3 rfl (by assumption) rfl));exact QA)|(apply GOl_to;(iterate 3 exact rfl);(first|(apply OpTo_box;exact rfl;intro b;skip)|(apply OpTo_valF (f:=186) (fs:=[]) (cs:=[]);exact rfl;exact rfl;exact has186;exact rk2_c _ r;skip)|(apply OpTo_val;exact rfl;exact has117;exact player7_c _ _;skip)))|(apply GOl_split;exact rfl;exact rfl;all_goals (intro hc;try simp only [hcS,reduceCtorEq] at hc;try (exfalso;omega)))|(apply GO_retV1;(iterate 3 exact rfl)))
  all_goals (refine dec_ofV ?_;grind)
theorem rk14_c (h : Ro) (r : FRul) : Val Tryz.prog 199 #[rulV r] h (.bool (decide (Bel r.club 192 ∧ 1 ≤ r.amount ∧ r.amount ≤ 1125899906842624))):=by
  refine Val_intro (args:=[_]) ts_ok Go.Proofs.Tryz.func199 rfl rfl fun w0 X0 => ?_
  repeat' (first|apply GO_seq|apply GO_region|apply GOl_nil|(apply GOl_unwanted;exact rfl;exact rfl)|(apply GOl_pv;(iterate 3 exact rfl))|(apply GOl_load;exact rfl;exact Ld_blk rfl QM rfl;exact rfl;exact rfl)|(apply GOl_to;(iterate 3 exact rfl);(first|(apply OpTo_box;exact rfl;intro b;skip)|(apply OpTo_val;exact rfl;exact has118;exact club7_c _ _;skip)))|(apply GOl_split;exact rfl;exact rfl;all_goals (intro hc;try simp only [hcS,reduceCtorEq] at hc;try (exfalso;omega)))|(apply GO_retV1;(iterate 3 exact rfl)))
  all_goals (refine dec_ofV ?_;(try rw [leI_t]);grind)
theorem rk16_c (h : Ro) (r : FRul) : Val Tryz.prog 201 #[rulV r] h (.bool true):=by
  refine Val_intro (args:=[_]) ts_ok Go.Proofs.Tryz.func201 rfl rfl fun w0 X0 => ?_
  repeat' (first|apply GO_seq|apply GO_region|apply GOl_nil|(apply GOl_pv;(iterate 3 exact rfl))|(apply GOl_to;(iterate 3 exact rfl);(first|(apply OpTo_box;exact rfl;intro b;skip)))|(apply GO_retV1;(iterate 3 exact rfl)))
  all_goals rfl
def wrPost (b T : Nat) (cs : List Value) : Value → List Asn → Ro → Prop:=fun v Es _ => v = .tuple #[] ∧ Es = [Blk b T cs]
theorem rk4_c (h : Ro) (bq : Nat) (r x : FRul) : Fn Tryz.prog 189 #[rulV r,.pointer (some ⟨bq,0,none⟩)] [Blk bq 50 (rulC x)] h (wrPost bq 50 (rulC { x with g:=r.g,club:=r.club })):=by
  refine Fn_intro (args:=[_,_]) ts_ok Go.Proofs.Tryz.func189 rfl rfl fun w0 X0 => ?_
  repeat' (first|apply GO_seq|apply GO_region|apply GOl_nil|(apply GOl_to;(iterate 3 exact rfl);(first|(apply OpTo_box;exact rfl;intro b;skip)))|(apply GO_drawp (n:=1) [0,2,3,6,7,8,1,4,5,9,10,11] [(0,0),(1,0),(2,0),(3,0),(4,0),(5,0),(6,0),(7,0),(8,1),(9,0),(10,0),(11,1)];kernel_rfl)|(apply GP_pv;exact rfl;kernel_rfl;(iterate 3 exact rfl))|(apply GP_loadB;exact rfl;kernel_rfl;(iterate 3 exact rfl);exact QM;exact rfl;exact rfl)|(apply GP_real;exact rfl;kernel_rfl;(iterate 3 exact rfl);(first|(apply OpTo_store;(iterate 3 exact rfl);exact QR;(iterate 3 exact rfl);refine ⟨Le.refl _,QN,?_⟩)))|(apply GP_done;kernel_rfl;exact rfl))
  exact GO_take (Es':=[Blk bq 50 (rulC { x with g:=r.g,club:=r.club })]) QT (GO_end (rs:=[]) (vs:=[]) rfl rfl trivial ⟨rfl,rfl⟩)
theorem rk5_c (h : Ro) (bq : Nat) (r x : FRul) : Fn Tryz.prog 190 #[rulV r,.pointer (some ⟨bq,0,none⟩)] [Blk bq 50 (rulC x)] h (wrPost bq 50 (rulC { x with g:=r.g })):=by
  refine Fn_intro (args:=[_,_]) ts_ok Go.Proofs.Tryz.func190 rfl rfl fun w0 X0 => ?_
  repeat' (first|apply GO_seq|apply GO_region|apply GOl_nil|(apply GOl_pv;(iterate 3 exact rfl))|(apply GOl_load;exact rfl;exact Ld_blk rfl QM rfl;exact rfl;exact rfl)|(apply GOl_to;(iterate 3 exact rfl);(first|(apply OpTo_store;(iterate 3 exact rfl);exact QR;(iterate 3 exact rfl);skip)|(apply OpTo_box;exact rfl;intro b;skip))))
  exact GO_take (Es':=[Blk bq 50 (rulC { x with g:=r.g })]) QT (GO_end (rs:=[]) (vs:=[]) rfl rfl trivial ⟨rfl,rfl⟩)
theorem rk7_c (h : Ro) (bq : Nat) (r x : FRul) : Fn Tryz.prog 192 #[rulV r,.pointer (some ⟨bq,0,none⟩)] [Blk bq 50 (rulC x)] h (wrPost bq 50 (rulC { x with g:=r.g,hg:=r.hg,ag:=r.ag })):=by
  refine Fn_intro (args:=[_,_]) ts_ok Go.Proofs.Tryz.func192 rfl rfl fun w0 X0 => ?_
  repeat' (first|apply GO_seq|apply GO_region|apply GOl_nil|(apply GOl_to;(iterate 3 exact rfl);(first|(apply OpTo_box;exact rfl;intro b;skip)))|(apply GO_drawp (n:=1) [0,3,4,9,10,11,1,5,6,12,13,14,2,7,8,15,16,17] [(0,0),(1,0),(2,0),(3,0),(4,0),(5,0),(6,0),(7,0),(8,0),(9,0),(10,0),(11,1),(12,0),(13,0),(14,1),(15,0),(16,0),(17,1)];kernel_rfl)|(apply GP_pv;exact rfl;kernel_rfl;(iterate 3 exact rfl))|(apply GP_loadB;exact rfl;kernel_rfl;(iterate 3 exact rfl);exact QM;exact rfl;exact rfl)|(apply GP_real;exact rfl;kernel_rfl;(iterate 3 exact rfl);(first|(apply OpTo_store;(iterate 3 exact rfl);exact QR;(iterate 3 exact rfl);refine ⟨Le.refl _,QN,?_⟩)))|(apply GP_done;kernel_rfl;exact rfl))
  exact GO_take (Es':=[Blk bq 50 (rulC { x with g:=r.g,hg:=r.hg,ag:=r.ag })]) QT (GO_end (rs:=[]) (vs:=[]) rfl rfl trivial ⟨rfl,rfl⟩)
theorem rk9_c (h : Ro) (bq : Nat) (r x : FRul) : Fn Tryz.prog 194 #[rulV r,.pointer (some ⟨bq,0,none⟩)] [Blk bq 50 (rulC x)] h (wrPost bq 50 (rulC { x with club:=r.club,season:=r.season,comp:=r.comp,points:=r.points })):=by
  refine Fn_intro (args:=[_,_]) ts_ok Go.Proofs.Tryz.func194 rfl rfl fun w0 X0 => ?_
  repeat' (first|apply GO_seq|apply GO_region|apply GOl_nil|(apply GOl_to;(iterate 3 exact rfl);(first|(apply OpTo_box;exact rfl;intro b;skip)))|(apply GO_drawp (n:=1) [0,4,5,12,13,14,1,6,7,15,16,17,2,8,9,18,19,20,3,10,11,21,22,23] [(0,0),(1,0),(2,0),(3,0),(4,0),(5,0),(6,0),(7,0),(8,0),(9,0),(10,0),(11,0),(12,0),(13,0),(14,1),(15,0),(16,0),(17,1),(18,0),(19,0),(20,1),(21,0),(22,0),(23,1)];kernel_rfl)|(apply GP_pv;exact rfl;kernel_rfl;(iterate 3 exact rfl))|(apply GP_loadB;exact rfl;kernel_rfl;(iterate 3 exact rfl);exact QM;exact rfl;exact rfl)|(apply GP_real;exact rfl;kernel_rfl;(iterate 3 exact rfl);(first|(apply OpTo_store;(iterate 3 exact rfl);exact QR;(iterate 3 exact rfl);refine ⟨Le.refl _,QN,?_⟩)))|(apply GP_done;kernel_rfl;exact rfl))
  exact GO_take (Es':=[Blk bq 50 (rulC { x with club:=r.club,season:=r.season,comp:=r.comp,points:=r.points })]) QT (GO_end (rs:=[]) (vs:=[]) rfl rfl trivial ⟨rfl,rfl⟩)
theorem rk11_c (h : Ro) (bq : Nat) (r x : FRul) : Fn Tryz.prog 196 #[rulV r,.pointer (some ⟨bq,0,none⟩)] [Blk bq 50 (rulC x)] h (wrPost bq 50 (rulC { x with club:=r.club,lo:=r.lo,hi:=r.hi })):=by
  refine Fn_intro (args:=[_,_]) ts_ok Go.Proofs.Tryz.func196 rfl rfl fun w0 X0 => ?_
  repeat' (first|apply GO_seq|apply GO_region|apply GOl_nil|(apply GOl_to;(iterate 3 exact rfl);(first|(apply OpTo_box;exact rfl;intro b;skip)))|(apply GO_drawp (n:=1) [0,2,3,6,7,8,1,4,5,9,10,11] [(0,0),(1,0),(2,0),(3,0),(4,0),(5,0),(6,0),(7,0),(8,1),(9,0),(10,0),(11,1)];kernel_rfl)|(apply GP_pv;exact rfl;kernel_rfl;(iterate 3 exact rfl))|(apply GP_loadB;exact rfl;kernel_rfl;(iterate 3 exact rfl);exact QM;exact rfl;exact rfl)|(apply GP_real;exact rfl;kernel_rfl;(iterate 3 exact rfl);(first|(apply OpTo_store;(iterate 3 exact rfl);exact QR;(iterate 3 exact rfl);refine ⟨Le.refl _,QN,?_⟩)))|(apply GP_done;kernel_rfl;exact rfl))
  exact GO_take (Es':=[Blk bq 50 (rulC { x with club:=r.club,lo:=r.lo,hi:=r.hi })]) QT (GO_end (rs:=[]) (vs:=[]) rfl rfl trivial ⟨rfl,rfl⟩)
theorem rk13_c (h : Ro) (bq : Nat) (r x : FRul) : Fn Tryz.prog 198 #[rulV r,.pointer (some ⟨bq,0,none⟩)] [Blk bq 50 (rulC x)] h (wrPost bq 50 (rulC { x with player:=r.player,lo:=r.lo,hi:=r.hi })):=by
  refine Fn_intro (args:=[_,_]) ts_ok Go.Proofs.Tryz.func198 rfl rfl fun w0 X0 => ?_
  repeat' (first|apply GO_seq|apply GO_region|apply GOl_nil|(apply GOl_to;(iterate 3 exact rfl);(first|(apply OpTo_box;exact rfl;intro b;skip)))|(apply GO_drawp (n:=1) [0,2,3,6,7,8,1,4,5,9,10,11] [(0,0),(1,0),(2,0),(3,0),(4,0),(5,0),(6,0),(7,0),(8,1),(9,0),(10,0),(11,1)];kernel_rfl)|(apply GP_pv;exact rfl;kernel_rfl;(iterate 3 exact rfl))|(apply GP_loadB;exact rfl;kernel_rfl;(iterate 3 exact rfl);exact QM;exact rfl;exact rfl)|(apply GP_real;exact rfl;kernel_rfl;(iterate 3 exact rfl);(first|(apply OpTo_store;(iterate 3 exact rfl);exact QR;(iterate 3 exact rfl);refine ⟨Le.refl _,QN,?_⟩)))|(apply GP_done;kernel_rfl;exact rfl))
  exact GO_take (Es':=[Blk bq 50 (rulC { x with player:=r.player,lo:=r.lo,hi:=r.hi })]) QT (GO_end (rs:=[]) (vs:=[]) rfl rfl trivial ⟨rfl,rfl⟩)
theorem rk15_c (h : Ro) (bq : Nat) (r x : FRul) : Fn Tryz.prog 200 #[rulV r,.pointer (some ⟨bq,0,none⟩)] [Blk bq 50 (rulC x)] h (wrPost bq 50 (rulC { x with club:=r.club,amount:=r.amount })):=by
  refine Fn_intro (args:=[_,_]) ts_ok Go.Proofs.Tryz.func200 rfl rfl fun w0 X0 => ?_
  repeat' (first|apply GO_seq|apply GO_region|apply GOl_nil|(apply GOl_to;(iterate 3 exact rfl);(first|(apply OpTo_box;exact rfl;intro b;skip)))|(apply GO_drawp (n:=1) [0,2,3,6,7,8,1,4,5,9,10,11] [(0,0),(1,0),(2,0),(3,0),(4,0),(5,0),(6,0),(7,0),(8,1),(9,0),(10,0),(11,1)];kernel_rfl)|(apply GP_pv;exact rfl;kernel_rfl;(iterate 3 exact rfl))|(apply GP_loadB;exact rfl;kernel_rfl;(iterate 3 exact rfl);exact QM;exact rfl;exact rfl)|(apply GP_real;exact rfl;kernel_rfl;(iterate 3 exact rfl);(first|(apply OpTo_store;(iterate 3 exact rfl);exact QR;(iterate 3 exact rfl);refine ⟨Le.refl _,QN,?_⟩)))|(apply GP_done;kernel_rfl;exact rfl))
  exact GO_take (Es':=[Blk bq 50 (rulC { x with club:=r.club,amount:=r.amount })]) QT (GO_end (rs:=[]) (vs:=[]) rfl rfl trivial ⟨rfl,rfl⟩)
theorem rk17_c (h : Ro) (bq : Nat) (r x : FRul) : Fn Tryz.prog 202 #[rulV r,.pointer (some ⟨bq,0,none⟩)] [Blk bq 50 (rulC x)] h (wrPost bq 50 (rulC x)):=by
  refine Fn_intro (args:=[_,_]) ts_ok Go.Proofs.Tryz.func202 rfl rfl fun w0 X0 => ?_
  repeat' (first|apply GO_region|apply GOl_nil|(apply GOl_to;(iterate 3 exact rfl);(first|(apply OpTo_box;exact rfl;intro b;skip))))
  exact GO_take (Es':=[Blk bq 50 (rulC x)]) QT (GO_end (rs:=[]) (vs:=[]) rfl rfl trivial ⟨rfl,rfl⟩)
def shV (p : Value × Value) : Value:=.agg #[p.1,p.2]
def kL (l : List (Int × (Value × Value))) : List (Int × (Value × Value)):=l.foldl (fun m p => insA p.1 p.2 m) []
theorem look7 {κ α : Type} [DecidableEq κ] (x y : κ) (a : α) : ∀ (m : List (κ × α)),lookA y (insA x a m) = if x = y then some a else lookA y m
  | [] => by simp [insA,lookA]
  | (z,b) :: r => by
    by_cases hz : z = x
    · subst hz
      by_cases hy : z = y
      · simp [insA,lookA,hy]
      · simp [insA,lookA,hy]
    · by_cases hy : z = y
      · subst hy
        simp [insA,lookA,hz,Ne.symm hz]
      · simp [insA,lookA,hz,hy,look7 x y a r]
theorem OpTo_insSh {C : Ctx} {l : Sl} {Es Es' : List Asn} {h : Ro} {G : Value → List Asn → Ro → Prop} {ty : TypeId} {pos : String} {aft : Array Edge} {gd : Option (Nat × Bool)} {dst : Option Tmp} {t e : TypeId} {x y v : Operand} {b : Nat} {key : Int} {p q : Value} {m : List (Int × (Value × Value))} {T : Ty}
    (K : KeyT C.P 3 (fun i : Int => .int .i64 i)) (hT : tyOf t C.ts = some T) (hTd : T.desc = .map 3 e) (hx : evl l x = some (.map (some b))) (hy : evl l y = some (.int .i64 key)) (hv : evl l v = some (.agg #[p,q]))
    (hR : Repl Es (MapA (fun i : Int => .int .i64 i) shV b m) (MapA (fun i : Int => .int .i64 i) shV b (insA key (p,q) m)) Es') (g : G undef Es' h) : OpTo C l Es h ⟨dst,.insert t x y v,ty,pos,aft,gd⟩ G :=
  OpTo_insert K hT hTd hx hy hv (u:=(p,q)) rfl hR g
def fnV (f : Nat) (cs : List Value) : Value:=.func (.func f) #[] cs.toArray
def rulL (b1 b2 : Nat) : List (Int × (Value × Value)):=kL [
  (1,(fnV 188 [.pointer (some ⟨b1,0,none⟩)],fnV 189 [])),
  (2,(fnV 185 [],fnV 190 [])),
  (3,(fnV 191 [.pointer (some ⟨b1,0,none⟩)],fnV 192 [])),
  (4,(fnV 193 [],fnV 194 [])),
  (5,(fnV 195 [.pointer (some ⟨b2,0,none⟩)],fnV 196 [])),
  (6,(fnV 197 [.pointer (some ⟨b2,0,none⟩)],fnV 198 [])),
  (7,(fnV 199 [],fnV 200 [])),
  (8,(fnV 201 [],fnV 202 []))]
theorem rulings_c (h : Ro) : Fn Tryz.prog 161 #[] [] h fun v Es h' => ∃ bm b1 b2,v = .map (some bm) ∧ Es = [MapA (fun i : Int => .int .i64 i) shV bm (rulL b1 b2)] ∧ GameB h' b1 ∧ DaysB h' b2:=by
  refine Fn_intro (args:=[]) ts_ok Go.Proofs.Tryz.func161 rfl rfl fun w0 X0 => ?_
  repeat' (first|apply GO_seq|apply GO_region|apply GOl_nil|(apply GOl_pv;(iterate 3 exact rfl))|(apply GOl_load;exact rfl;exact Ld_blk rfl QM rfl;exact rfl;exact rfl)|(apply GOl_to;(iterate 3 exact rfl);(first|(apply OpTo_store;(iterate 3 exact rfl);exact QR;(iterate 3 exact rfl);skip)|(apply OpTo_alloc;exact rfl;intro b;skip)|(apply OpTo_makeMap (fun i : Int => .int .i64 i) shV;intro bm;skip)|(apply OpTo_insSh K7;(iterate 5 exact rfl);exact QR;skip))))
  rename_i b1
  refine GO_relB (b:=b1) QK ?_
  intro h1 hle1 hc1
  refine GO_relB (b:=b) QK ?_
  intro h2 hle2 hc2
  exact GO_retS1 rfl rfl rfl (List.Sublist.refl _) ⟨bm,b1,b,rfl,rfl,hc1.le hle2,hc2⟩
def baseR (r : FRul) : FRul:={ rul0 with case:=r.case,inst:=r.inst,kind:=r.kind }
def RulK (r : FRul) (b1 b2 : Nat) (g : Nat) (gcs : List Value) (kf : Nat) (gb : Bool) : Prop :=
  lookA r.kind (rulL b1 b2) = some (fnV g gcs,fnV kf []) ∧ Has Tryz.prog g ∧ Has Tryz.prog kf ∧ (gb = true ↔ RulGood r) ∧ (∀ h',GameB h' b1 → DaysB h' b2 → Val Tryz.prog g ([] ++ [rulV r] ++ gcs).toArray h' (.bool gb)) ∧
  ∀ h' bq,Fn Tryz.prog kf ([] ++ [rulV r,.pointer (some ⟨bq,0,none⟩)] ++ []).toArray [Blk bq 50 (rulC (baseR r))] h' (wrPost bq 50 (rulC (onlyR r)))
theorem rulL_look (b1 b2 : Nat) (k : Int) : lookA k (rulL b1 b2) =
    if 8 = k then some (fnV 201 [],fnV 202 [])
    else if 7 = k then some (fnV 199 [],fnV 200 [])
    else if 6 = k then some (fnV 197 [.pointer (some ⟨b2,0,none⟩)],fnV 198 [])
    else if 5 = k then some (fnV 195 [.pointer (some ⟨b2,0,none⟩)],fnV 196 [])
    else if 4 = k then some (fnV 193 [],fnV 194 [])
    else if 3 = k then some (fnV 191 [.pointer (some ⟨b1,0,none⟩)],fnV 192 [])
    else if 2 = k then some (fnV 185 [],fnV 190 [])
    else if 1 = k then some (fnV 188 [.pointer (some ⟨b1,0,none⟩)],fnV 189 [])
    else none:=by
  unfold rulL kL
  simp only [List.foldl_cons,List.foldl_nil,look7,lookA]
theorem rulK_mk {r : FRul} {b1 b2 : Nat} {g : Nat} {gcs : List Value} {kf : Nat} {gb : Bool} {x : FRul} (hl : lookA r.kind (rulL b1 b2) = some (fnV g gcs,fnV kf [])) (hg : Has Tryz.prog g) (hk : Has Tryz.prog kf) (hgb : gb = true ↔ RulGood r)
    (hv : ∀ h',GameB h' b1 → DaysB h' b2 → Val Tryz.prog g ([] ++ [rulV r] ++ gcs).toArray h' (.bool gb)) (hx : x = onlyR r) (hf : ∀ h' bq,Fn Tryz.prog kf ([] ++ [rulV r,.pointer (some ⟨bq,0,none⟩)] ++ []).toArray [Blk bq 50 (rulC (baseR r))] h' (wrPost bq 50 (rulC x))) :
    ∃ g gcs kf gb,RulK r b1 b2 g gcs kf gb:=⟨g,gcs,kf,gb,hl,hg,hk,hgb,hv,hx ▸ hf⟩
theorem rul_kind (r : FRul) (b1 b2 : Nat) (hk : 1 ≤ r.kind ∧ r.kind ≤ 8) : ∃ g gcs kf gb,RulK r b1 b2 g gcs kf gb:=by
  have : r.kind = 1 ∨ r.kind = 2 ∨ r.kind = 3 ∨ r.kind = 4 ∨ r.kind = 5 ∨ r.kind = 6 ∨ r.kind = 7 ∨ r.kind = 8:=by omega
  rcases this with e|e|e|e|e|e|e|e
  · exact rulK_mk (by rw [rulL_look,e];rfl) has188 has189 (by rw [decide_eq_true_eq,RulGood,e];rfl) (fun h' h1 h2 => rk3_c h' b1 h1 r) (by simp [onlyR,baseR,rul0,e]) (fun h' bq => rk4_c h' bq r (baseR r))
  · exact rulK_mk (by rw [rulL_look,e];rfl) has185 has190 (by rw [decide_eq_true_eq,RulGood,e];rfl) (fun h' h1 h2 => rk1_c h' r) (by simp [onlyR,baseR,rul0,e]) (fun h' bq => rk5_c h' bq r (baseR r))
  · exact rulK_mk (by rw [rulL_look,e];rfl) has191 has192 (by rw [decide_eq_true_eq,RulGood,e];rfl) (fun h' h1 h2 => rk6_c h' b1 h1 r) (by simp [onlyR,baseR,rul0,e]) (fun h' bq => rk7_c h' bq r (baseR r))
  · exact rulK_mk (by rw [rulL_look,e];rfl) has193 has194 (by rw [decide_eq_true_eq,RulGood,e];rfl) (fun h' h1 h2 => rk8_c h' r) (by simp [onlyR,baseR,rul0,e]) (fun h' bq => rk9_c h' bq r (baseR r))
  · exact rulK_mk (by rw [rulL_look,e];rfl) has195 has196 (by rw [decide_eq_true_eq,RulGood,e];rfl) (fun h' h1 h2 => rk10_c h' b2 h2 r) (by simp [onlyR,baseR,rul0,e]) (fun h' bq => rk11_c h' bq r (baseR r))
  · exact rulK_mk (by rw [rulL_look,e];rfl) has197 has198 (by rw [decide_eq_true_eq,RulGood,e];rfl) (fun h' h1 h2 => rk12_c h' b2 h2 r) (by simp [onlyR,baseR,rul0,e]) (fun h' bq => rk13_c h' bq r (baseR r))
  · exact rulK_mk (by rw [rulL_look,e];rfl) has199 has200 (by rw [decide_eq_true_eq,RulGood,e];rfl) (fun h' h1 h2 => rk14_c h' r) (by simp [onlyR,baseR,rul0,e]) (fun h' bq => rk15_c h' bq r (baseR r))
  · exact rulK_mk (by rw [rulL_look,e];rfl) has201 has202 (by rw [RulGood,e];simp) (fun h' h1 h2 => rk16_c h' r) (by simp [onlyR,baseR,rul0,e]) (fun h' bq => rk17_c h' bq r (baseR r))
theorem rul_none (r : FRul) (b1 b2 : Nat) (hk : ¬ (1 ≤ r.kind ∧ r.kind ≤ 8)) : lookA r.kind (rulL b1 b2) = none ∧ ¬ RulGood r:=by
  constructor
  · rw [rulL_look]
    repeat rw [if_neg (by omega)]
  · rw [RulGood]
    repeat rw [if_neg (by omega)]
    omega
open Classical in
theorem ruling_c (h : Ro) (r : FRul) : Val Tryz.prog 112 #[rulV r] h (.bool (decide (RulOk r))):=by
  refine Val_intro (args:=[_]) ts_ok Go.Proofs.Tryz.func112 rfl rfl fun w0 X0 => ?_
  by_cases hk : 1 ≤ r.kind ∧ r.kind ≤ 8
  · repeat' (first|apply GO_seq|apply GO_skip|apply GO_region|apply GOl_nil|(apply GOl_unwanted;exact rfl;exact rfl)|(apply GOl_pv;(iterate 3 exact rfl))|(apply GOl_load;exact rfl;exact Ld_blk rfl QM rfl;exact rfl;exact rfl)|(apply GOl_ov;exact rfl;exact rfl;(first|(apply OV_eqlS;exact rfl;exact rfl;exact rul_eq (onlyR r) r;kernel_rfl;kernel_rfl));exact QA)|(apply GOl_to;(iterate 3 exact rfl);(first|(apply OpTo_store;(iterate 3 exact rfl);exact QR;(iterate 3 exact rfl);skip)|(apply OpTo_box;exact rfl;intro b;skip)|(apply OpTo_alloc;exact rfl;intro b;skip)|(apply OpTo_valF (f:=g) (fs:=[]) (cs:=gcs);exact rfl;exact rfl;exact hg;exact hv _ hG hD;skip)|(apply OpTo_callPF (f:=kf) (fs:=[]) (cs:=[]);exact rfl;exact rfl;exact hkf;exact hf _ _;exact QT;rintro v1 E1 h1 hle1 ⟨rfl,rfl⟩;skip)))|(apply GO_drawp (n:=1) [0,1,2,3,4,5,7,8,6,9] [(1,0),(2,0),(0,2),(7,7),(3,0),(4,0),(5,0),(6,0),(7,1),(8,1),(9,0),(0,1),(3,0),(4,0),(5,0),(6,0),(8,1),(9,0)];kernel_rfl)|(apply GP_pv;exact rfl;kernel_rfl;(iterate 3 exact rfl))|(apply GP_loadB;exact rfl;kernel_rfl;(iterate 3 exact rfl);exact QM;exact rfl;exact rfl)|(apply GP_ov;exact rfl;kernel_rfl;exact rfl;exact rfl;(first|(apply OV_lookup (ek:=fun i : Int => .int .i64 i) (ev:=shV) (key:=r.kind) (m:=rulL b1 b2) (r:=some (fnV g gcs,fnV kf [])) K7;(iterate 5 exact rfl);exact hl));exact QA)|(apply GP_real;exact rfl;kernel_rfl;(iterate 3 exact rfl);(first|(apply OpTo_store;(iterate 3 exact rfl);exact QR;(iterate 3 exact rfl);refine ⟨Le.refl _,QN,?_⟩)|(apply OpTo_alloc;exact rfl;intro b;refine ⟨Le.refl _,QN,?_⟩)|(apply OpTo_callP;exact rfl;exact has161;exact rulings_c _;exact QT;rintro v0 E0 h0 hle0 ⟨bm,b1,b2,rfl,rfl,hG,hD⟩;obtain ⟨g,gcs,kf,gb,hl,hg,hkf,hgb,hv,hf⟩:=rul_kind r b1 b2 hk;refine ⟨hle0,QN,?_⟩)))|(apply GP_two;kernel_rfl;exact rfl;exact rfl)|(apply RealP_intro;(iterate 4 exact rfl);(first|(apply OpTo_alloc;exact rfl;intro b;refine ⟨Le.refl _,QN,?_⟩)|(apply OpTo_callP;exact rfl;exact has161;exact rulings_c _;exact QT;rintro v0 E0 h0 hle0 ⟨bm,b1,b2,rfl,rfl,hG,hD⟩;obtain ⟨g,gcs,kf,gb,hl,hg,hkf,hgb,hv,hf⟩:=rul_kind r b1 b2 hk;refine ⟨hle0,QN,?_⟩)))|(apply GP_done;kernel_rfl;exact rfl)|(apply GO_cond;exact rfl;all_goals (intro hc;try simp only [hcS,reduceCtorEq] at hc;try (exfalso;omega)))|(apply GOl_split;exact rfl;exact rfl;all_goals (intro hc;try simp only [hcS,reduceCtorEq] at hc;try (exfalso;omega))))
    all_goals (first|(apply GO_retV1;(iterate 3 exact rfl)))
    all_goals (refine dec_ofV ?_;unfold RulOk;grind)
  · repeat' (first|apply GO_seq|apply GO_region|apply GOl_nil|(apply GOl_unwanted;exact rfl;exact rfl)|(apply GOl_pv;(iterate 3 exact rfl))|(apply GOl_to;(iterate 3 exact rfl);(first|(apply OpTo_box;exact rfl;intro b;skip)))|(apply GO_drawp (n:=1) [0,1,2,3,4,5,7,8,6,9] [(1,0),(2,0),(0,2),(7,7),(3,0),(4,0),(5,0),(6,0),(7,1),(8,1),(9,0),(0,1),(3,0),(4,0),(5,0),(6,0),(8,1),(9,0)];kernel_rfl)|(apply GP_pv;exact rfl;kernel_rfl;(iterate 3 exact rfl))|(apply GP_loadB;exact rfl;kernel_rfl;(iterate 3 exact rfl);exact QM;exact rfl;exact rfl)|(apply GP_ov;exact rfl;kernel_rfl;exact rfl;exact rfl;(first|(apply OV_lookup (ek:=fun i : Int => .int .i64 i) (ev:=shV) (key:=r.kind) (m:=rulL b1 b2) (r:=none) K7;(iterate 5 exact rfl);exact hl.1));exact QA)|(apply GP_real;exact rfl;kernel_rfl;(iterate 3 exact rfl);(first|(apply OpTo_store;(iterate 3 exact rfl);exact QR;(iterate 3 exact rfl);refine ⟨Le.refl _,QN,?_⟩)|(apply OpTo_alloc;exact rfl;intro b;refine ⟨Le.refl _,QN,?_⟩)|(apply OpTo_callP;exact rfl;exact has161;exact rulings_c _;exact QT;rintro v0 E0 h0 hle0 ⟨bm,b1,b2,rfl,rfl,hG,hD⟩;have hl:=rul_none r b1 b2 hk;refine ⟨hle0,QN,?_⟩)))|(apply GP_two;kernel_rfl;exact rfl;exact rfl)|(apply RealP_intro;(iterate 4 exact rfl);(first|(apply OpTo_alloc;exact rfl;intro b;refine ⟨Le.refl _,QN,?_⟩)|(apply OpTo_callP;exact rfl;exact has161;exact rulings_c _;exact QT;rintro v0 E0 h0 hle0 ⟨bm,b1,b2,rfl,rfl,hG,hD⟩;have hl:=rul_none r b1 b2 hk;refine ⟨hle0,QN,?_⟩)))|(apply GP_done;kernel_rfl;exact rfl)|(apply GO_cond;exact rfl;all_goals (intro hc;try simp only [hcS,reduceCtorEq] at hc;try (exfalso;omega))))
    all_goals (first|(apply GO_retV1;(iterate 3 exact rfl)))
    all_goals (refine dec_ofV ?_;unfold RulOk;grind)
end Go.Hw

import Derived.Test.YtgbamiehiokacaaGreatDoorSA
set_option linter.unusedVariables false
set_option linter.unusedSimpArgs false
set_option maxRecDepth 100000
set_option maxHeartbeats 4000000
namespace Go.Hw
open Go
attribute [local irreducible] GO GOl GDp Val Fn Res CellsAt ValE Blk OwnS MapA OwnPf Has Yl RngA
open Go.Proofs (Tryz.prog)
def MoveOk (player : Int) (f : Fct) : Prop:=f.kind = 6 ∧ f.mP = player ∧ FctOk f
open Classical in
noncomputable def movesE (player : Int) (l : List (Fsh × Fct)) : List (Fsh × Fct):=l.filter fun p => decide (MoveOk player p.2)
theorem Ha (pl : Int) (a b : List (Fsh × Fct)) : movesE pl (a ++ b) = movesE pl a ++ movesE pl b:=by unfold movesE;rw [List.filter_append]
theorem Coa {pl : Int} {p : Fsh × Fct} (h : MoveOk pl p.2) : movesE pl [p] = [p]:=by unfold movesE;simp [h]
theorem movesE_no {pl : Int} {p : Fsh × Fct} (h : ¬ MoveOk pl p.2) : movesE pl [p] = []:=by unfold movesE;simp [h]
open Classical in
theorem Ln {pl : Int} {l : List (Fsh × Fct)} {x : Fsh × Fct} : x ∈ movesE pl l ↔ x ∈ l ∧ MoveOk pl x.2:=by
 unfold movesE;rw [List.mem_filter,decide_eq_true_eq]
def takeE (day : Int) (z x : Fsh × Fct) : Fsh × Fct:=if x.2.day ≤ day ∧ (z.2.day < x.2.day ∨ (x.2.day = z.2.day ∧ 0 < cmpF x.2 z.2)) then x else z
def last0 : Fct:={ fct0 with day:=-1,mTo:=-1 }
def lastE (day : Int) (l : List (Fsh × Fct)) : Fsh × Fct:=l.foldl (takeE day) (fsh0,last0)
theorem Qx (day : Int) (l : List (Fsh × Fct)) (x : Fsh × Fct) : lastE day (l ++ [x]) = takeE day (lastE day l) x:=by unfold lastE;rw [List.foldl_append];rfl
theorem lastE_in (day : Int) (l : List (Fsh × Fct)) : lastE day l = (fsh0,last0) ∨ lastE day l ∈ l:=by
 refine Kd (P:=fun l => lastE day l = (fsh0,last0) ∨ lastE day l ∈ l) (.inl rfl) (fun l x ih => ?_) l
 rw [Qx]
 unfold takeE
 split
 · exact .inr (by simp)
 · exact ih.imp id fun h => by simp [h]
theorem FctOk.day0 {f : Fct} (h : FctOk f) : 0 ≤ f.day:=h.1.1
theorem Ama (h : Ro) (A : Option Addr) (n c : Nat) (player : Int) : Res Tryz.prog 79 #[.slice A n c,.int .i64 player] h (fun u h' => ∃ bx bp,u = .func (.func 160) #[] #[.pointer (some ⟨bx,0,none⟩),.pointer (some ⟨bp,0,none⟩)] ∧ CellsAt h' ⟨bx,0,none⟩ [.slice A n c] ∧ CellsAt h' ⟨bp,0,none⟩ [.int .i64 player]):=by
 refine Br (args:=[_,_]) ts_ok Go.Proofs.Tryz.func79 rfl rfl fun w0 X0 => ?_
 repeat' (first|apply Ad|apply Aa|apply Ab|(apply Ac;(iterate 3 exact J))|(apply Aj;(iterate 3 exact J);(first|(apply Av;exact J;intro b;skip))))
 refine Dz QK ?_
 intro h1 hle1 hc1
 refine Dz QK ?_
 intro h2 hle2 hc2
 (first|(apply Bv;(iterate 3 exact J)))
 first
  | exact ⟨_,_,rfl,hc2,hc1.le hle2⟩
  | exact ⟨_,_,rfl,hc1.le hle2,hc2⟩
open Classical in
theorem Ala (h : Ro) (A : Option Addr) (n c : Nat) (l : List (Fsh × Fct)) (hx : FactsAt h A n l) (player : Int) (bx bp : Nat) (hb : CellsAt h ⟨bx,0,none⟩ [.slice A n c]) (hp : CellsAt h ⟨bp,0,none⟩ [.int .i64 player]) : SeqR Tryz.prog 160 [.pointer (some ⟨bx,0,none⟩),.pointer (some ⟨bp,0,none⟩)] FR (movesE player l) h:=by
 intro lid I Ix mI mIx hround Es h1 hle h0
 refine Bq (args:=[_,_,_]) ts_ok Go.Proofs.Tryz.func160 rfl rfl fun w0 X0 => ?_
 have hlen:=hx.row.len
 have hn:=hx.small
 have hb1:=hb.le hle
 have hp1:=hp.le hle
 repeat' (first|apply Ad|apply Ah|apply Aa|apply Ab|(apply Ac;(iterate 3 exact J))|(apply Bc;exact J;exact J;(first|(apply Au;exact J;exact Bl rfl hb1 rfl));exact QA))
 refine Ja (X:=Nat × List Asn × Ro) (fun x => x.1 ≤ n ∧ Le h1 x.2.2 ∧ I (movesE player (l.take x.1)) x.2.1 x.2.2) (fun x => n - x.1) (fun x => [(8,.int .i64 x.1),(7,.int .i64 n),(6,.slice A n c),(0,.func (.yield lid) #[] #[]),(2,.pointer (some ⟨bp,0,none⟩))])
  (fun x => x.2.1) (fun x => x.2.2) (0,Es,h1) ⟨by omega,Le.refl _,h0⟩ QS rfl rfl ?_
 rintro ⟨k,Es1,hk⟩ ⟨hkn,hlk,hI⟩ ih
 dsimp only at hkn hlk hI ih ⊢
 have hl1 : Le h hk:=hle.trans hlk
 have hp2:=hp1.le hlk
 by_cases hkn2 : k < n
 · have a1:=hx.row.addrD hkn2
   have c1:=(hx.row.cellsD p0 hkn2).le hl1
   have et:=Cr p0 (xs:=l) rfl (show k < l.length by omega)
   have hsplit:=Fu p0 (l:=l) rfl (show k < l.length by omega)
   have hfa:=hx.fat _ (mem7 p0 (show k < l.length by omega))
   generalize l.getD k p0 = p at *
   have hch:=Fq hk p.1 p.2 (hfa.1.le hl1) hfa.2
   have hyl : MoveOk player p.2 → Yl Tryz.prog lid [factV p.1 p.2] Es1 hk fun v Es' h' => (v = .bool true ∧ I (movesE player (l.take (k + 1))) Es' h') ∨ (v = .bool false ∧ Ix (movesE player (l.take (k + 1))) Es' h'):=fun hv => by
    have e1:=Coa hv
    have e2 : movesE player (l.take (k + 1)) = movesE player (l.take k) ++ [p]:=by rw [et,Ha,e1]
    have e3 : movesE player l = movesE player (l.take k) ++ p :: movesE player (l.drop (k + 1)):=by
     conv => lhs;rw [hsplit]
     rw [Ha,show p :: l.drop (k + 1) = [p] ++ l.drop (k + 1) from rfl,Ha,e1];rfl
    rw [e2]
    exact hround _ _ _ _ _ _ e3 hl1 rfl hI
   by_cases hv : MoveOk player p.2
   · have hv1:=hv.1
     have hv2:=hv.2.1
     rw [if_pos hv.2.2] at hch
     repeat' (first|apply Ad|apply At|apply Ao|apply Ah|apply Aa|apply Ab|(apply Bg;(iterate 3 exact J);omega;exact J;exact J)|(apply Ac;(iterate 3 exact J))|(apply Aq;exact J;exact Ba rfl QM rfl;exact J;exact J)|(apply Bc;exact J;exact J;(first|(apply Bd (j:=k);(iterate 5 exact J);exact a1;(with_reducible exact J);omega)|(apply Au;exact J;exact Bl rfl c1 rfl)|(apply Au;exact J;exact Bl rfl hp2 rfl));exact QA)|(apply Aj;(iterate 3 exact J);(first|(apply Ag;(iterate 3 exact J);exact QR;(iterate 3 exact J);skip)|(apply Ai;exact J;intro b;skip)|(apply Ap;exact J;exact Gh;exact hch;skip)|(refine Hd (List.perm_append_comm (l₁:=[_])) ?_;apply Iz (Es0:=Es1) (Fs:=[_]);(iterate 3 exact J);exact hyl hv;rintro v E2 h2 hle2 (⟨rfl,hP⟩|⟨rfl,hP⟩);all_goals skip)))|(apply Af;exact J;all_goals (intro hc;try simp only [hcS,reduceCtorEq] at hc;try (exfalso;omega)))|(apply Bb;exact J;exact J;all_goals (intro hc;try simp only [hcS,reduceCtorEq] at hc;try (exfalso;omega))))
     all_goals first
      | (exfalso;omega)
      | (have h3:=ih (k + 1,E2,h2) ⟨by show k + 1 ≤ n;omega,hlk.trans hle2,hP⟩ (by show n - (k + 1) < n - k;omega)
         refine Ii (List.perm_append_comm (l₁:=E2) (l₂:=[_])) (Ij .here ?_)
         exact Hq QS h3)
      | (refine Jz (rs:=[]) (vs:=[]) (Fs:=E2) rfl rfl trivial (List.sublist_append_left _ _) (.inr ⟨movesE player (l.take (k + 1)),movesE player (l.drop (k + 1)),?_,hP⟩)
         rw [← Ha,List.take_append_drop])
   have hno : movesE player (l.take (k + 1)) = movesE player (l.take k):=by
    rw [et,Ha,movesE_no hv,List.append_nil]
   by_cases hk3 : p.2.kind = 6 ∧ p.2.mP = player
   · rw [if_neg (fun h => hv ⟨hk3.1,hk3.2,h⟩)] at hch
     repeat' (first|apply Ad|apply At|apply Ao|apply Ah|apply Aa|apply Ab|(apply Ar;exact J;exact J)|(apply Bg;(iterate 3 exact J);omega;exact J;exact J)|(apply Ac;(iterate 3 exact J))|(apply Aq;exact J;exact Ba rfl QM rfl;exact J;exact J)|(apply Bc;exact J;exact J;(first|(apply Bd (j:=k);(iterate 5 exact J);exact a1;(with_reducible exact J);omega)|(apply Au;exact J;exact Bl rfl c1 rfl)|(apply Au;exact J;exact Bl rfl hp2 rfl));exact QA)|(apply Aj;(iterate 3 exact J);(first|(apply Ag;(iterate 3 exact J);exact QR;(iterate 3 exact J);skip)|(apply Ai;exact J;intro b;skip)|(apply Ap;exact J;exact Gh;exact hch;skip)))|(apply Af;exact J;all_goals (intro hc;try simp only [hcS,reduceCtorEq] at hc;try (exfalso;omega)))|(apply Bb;exact J;exact J;all_goals (intro hc;try simp only [hcS,reduceCtorEq] at hc;try (exfalso;omega))))
     all_goals
      have h3:=ih (k + 1,Es1,hk) ⟨by show k + 1 ≤ n;omega,hlk,by show I (movesE player (l.take (k + 1))) _ _;rw [hno];exact hI⟩ (by show n - (k + 1) < n - k;omega)
      refine Ij .here ?_
      exact Hq QS h3
   · generalize (if FctOk p.2 then (0 : Int) else 70) = chv at hch
     repeat' (first|apply Ad|apply At|apply Ao|apply Ah|apply Aa|apply Ab|(apply Ar;exact J;exact J)|(apply Bg;(iterate 3 exact J);omega;exact J;exact J)|(apply Ac;(iterate 3 exact J))|(apply Aq;exact J;exact Ba rfl QM rfl;exact J;exact J)|(apply Bc;exact J;exact J;(first|(apply Bd (j:=k);(iterate 5 exact J);exact a1;(with_reducible exact J);omega)|(apply Au;exact J;exact Bl rfl c1 rfl)|(apply Au;exact J;exact Bl rfl hp2 rfl));exact QA)|(apply Aj;(iterate 3 exact J);(first|(apply Ag;(iterate 3 exact J);exact QR;(iterate 3 exact J);skip)|(apply Ai;exact J;intro b;skip)))|(apply Af;exact J;all_goals (intro hc;try simp only [hcS,reduceCtorEq] at hc;try (exfalso;omega)))|(apply Bb;exact J;exact J;all_goals (intro hc;try simp only [hcS,reduceCtorEq] at hc;try (exfalso;omega))))
     all_goals first
      | (exfalso;exact hk3 ⟨by assumption,by assumption⟩)
      | (have h3:=ih (k + 1,Es1,hk) ⟨by show k + 1 ≤ n;omega,hlk,by show I (movesE player (l.take (k + 1))) _ _;rw [hno];exact hI⟩ (by show n - (k + 1) < n - k;omega)
         refine Ij .here ?_
         exact Hq QS h3)
 · rw [List.take_of_length_le (by omega)] at hI
   repeat' (first|apply Ad|apply Aa|apply Ab|(apply Bm;exact J)|(apply Ac;(iterate 3 exact J))|(apply Af;exact J;all_goals (intro hc;try simp only [hcS,reduceCtorEq] at hc;try (exfalso;omega))))
   exact Dd (rs:=[]) (vs:=[]) rfl rfl trivial (.inl hI)
theorem Vb (h : Ro) (hG : PowG h) (A : Option Addr) (n c : Nat) (l : List (Fsh × Fct)) (hx : FactsAt h A n l) (player day : Int) : Res Tryz.prog 35 #[.slice A n c,.int .i64 player,.int .i64 day] h (fun u _ => u = .tuple #[.int .i64 (if (lastE day (movesE player l)).2.mTo < 0 then 0 else (lastE day (movesE player l)).2.mTo),.bool (decide (0 ≤ (lastE day (movesE player l)).2.mTo))]):=by
 refine Br (args:=[_,_,_]) ts_ok Go.Proofs.Tryz.func35 rfl rfl fun w0 X0 => ?_
 repeat' (first|apply Ad|apply Ah|apply Aa|apply Ab|(apply Aj;(iterate 3 exact J);apply Ai (e:=54);exact J;intro bL)|(apply Ac;(iterate 3 exact J))|(apply Aj;(iterate 3 exact J);(first|(apply Ag;(iterate 3 exact J);exact QR;(iterate 3 exact J);skip)|(apply Av;exact J;intro b;skip)|(apply Bf;exact J;exact has79;exact Ama _ A n c player;rintro vr hr1 hle1 ⟨bx,bp,rfl,hcb,hcp⟩;skip))))
 generalize b = bD
 refine Cn (Es':=[Blk bL 54 (factC fsh0 last0),Blk bD 3 [.int .i64 day]]) QT ?_
 refine Fb (R:=FR) (xs:=movesE player l) (gf:=160) (lb:=[.pointer (some ⟨bx,0,none⟩),.pointer (some ⟨bp,0,none⟩)]) rfl rfl has160 (Ala _ A n c l (hx.le hle1) player bx bp hcb hcp) (by rintro x u h2 rfl;rfl) rfl
  (fun pre Es h2 => Es = [Blk bL 54 (factC (lastE day pre).1 (lastE day pre).2),Blk bD 3 [.int .i64 day]]) (fun _ _ _ _ => False)
  (fun pre Es h2 h3 hl e => e) (fun _ _ _ _ _ _ h => h.elim) rfl ?_ ?_ (fun _ _ _ _ _ _ _ _ h => h.elim)
 · rintro lid r0 w1 X1 pre x post u Es1 h1 hxe rfl rfl hle hst
   have hm : ∀ y ∈ movesE player l,FAt h1 y.1 y.2 ∧ FSm y.2 ∧ FctOk y.2:=fun y hy => by
    rw [Ln] at hy
    have:=hx.fat y hy.1
    exact ⟨this.1.le (hle1.trans hle),this.2,hy.2.2.2⟩
   obtain ⟨q1,q2,q3⟩:=hm x (by rw [hxe];simp)
   have hz : x.2.day = (lastE day pre).2.day → FAt h1 (lastE day pre).1 (lastE day pre).2 ∧ FSm (lastE day pre).2 ∧ FctOk (lastE day pre).2:=fun e => by
    rcases lastE_in day pre with e2|hin
    · have:=q3.day0
      rw [e2] at e
      rw [e] at this
      exact absurd this (by decide)
    · exact hm _ (by rw [hxe];simp [hin])
   rw [Qx]
   generalize lastE day pre = z at *
   obtain ⟨s,f⟩:=x
   obtain ⟨t,e⟩:=z
   unfold takeE
   dsimp only at q1 q2 q3 hz ⊢
   repeat' (first|apply Ad|apply At|apply Ao|apply Ah|apply Aa|apply Ab|(apply Jd;exact J;exact QK;exact hst)|(apply Ar;exact J;exact J)|(apply Ac;(iterate 3 exact J))|(apply Aq;exact J;exact Ba rfl QM rfl;exact J;exact J)|(apply Aj;(iterate 3 exact J);(first|(apply Ag;(iterate 3 exact J);exact QR;(iterate 3 exact J);skip)|(apply Ai;exact J;intro b;skip)|(apply Bf;exact J;exact Oq;exact Fv _ (hG.le QL) s t f e (q1.le QL) q2 ((hz (by assumption)).1.le QL) (hz (by assumption)).2.1 q3 (hz (by assumption)).2.2;rintro v2 h2 hle2 rfl;skip)))|(apply Af;exact J;all_goals (intro hc;try simp only [hcS,reduceCtorEq] at hc;try (exfalso;omega)))|(apply Bb;exact J;exact J;all_goals (intro hc;try simp only [hcS,reduceCtorEq] at hc;try (exfalso;omega))))
   all_goals first
    | (rw [if_pos (show f.day ≤ day ∧ (e.day < f.day ∨ (f.day = e.day ∧ 0 < cmpF f e)) by omega)]
       refine Cn (Es':=[LoopA lid { r0 with state:=.busy },Blk bL 54 (factC s f),Blk bD 3 [.int .i64 day]]) QT (Pw (r0:=r0) rfl .here ?_)
       rfl)
    | (rw [if_neg (show ¬ (f.day ≤ day ∧ (e.day < f.day ∨ (f.day = e.day ∧ 0 < cmpF f e))) by omega)]
       refine Cn (Es':=[LoopA lid { r0 with state:=.busy },Blk bL 54 (factC t e),Blk bD 3 [.int .i64 day]]) QT (Pw (r0:=r0) rfl .here ?_)
       rfl)
 · rintro D h1 Es1 hle rfl
   repeat' (first|apply Ad|apply At|apply Ao|apply Aa|apply Ab|(apply Ac;(iterate 3 exact J))|(apply Aq;exact J;exact Ba rfl QM rfl;exact J;exact J)|(apply Af;exact J;all_goals (intro hc;try simp only [hcS,reduceCtorEq] at hc;try (exfalso;omega))))
   · refine Zr (Jv rfl QK (Rt_S (rs:=[.tmp 6,.tmp 7]) (vs:=[.int .i64 0,.bool false]) rfl rfl ⟨rfl,rfl,trivial⟩ (List.nil_sublist _) ⟨rfl,?_⟩))
     rw [if_pos hc,decide_eq_false (by omega)]
     rfl
   · refine Zr (Jv rfl QK (Rt_S (rs:=[.tmp 6,.tmp 7]) (vs:=[.int .i64 (lastE day (movesE player l)).2.mTo,.bool true]) rfl rfl ⟨rfl,rfl,trivial⟩ (List.nil_sublist _) ⟨rfl,?_⟩))
     rw [if_neg (by omega),decide_eq_true hc]
     rfl
end Go.Hw

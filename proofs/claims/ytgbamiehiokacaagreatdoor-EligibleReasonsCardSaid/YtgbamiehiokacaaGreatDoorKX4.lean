import Derived.Test.YtgbamiehiokacaaGreatDoorKX3
import Derived.Test.YtgbamiehiokacaaGreatDoorKL1
set_option linter.unusedVariables false
set_option linter.unusedSimpArgs false
set_option maxRecDepth 100000
set_option maxHeartbeats 8000000
namespace Go.Hw
open Go
attribute [local irreducible] GO GOl GDp Val Fn Res CellsAt ValE Blk OwnS MapA OwnPf Has Yl SepA forceL decC memS suspC suspN suspOne yelC cardsF nextC regF offS
open Go.Proofs (Tryz.prog)
theorem Cra {l : List (Fsh × Fct)} (pl day : Int) : (lastE day (movesE pl l)).2 = regF (fcs l) pl day:=by
 have e : fcs (movesE pl l) = movesC pl (fcs l):=by
  unfold movesE movesC fcs
  rw [List.filter_map]
  rfl
 unfold regF lastE
 rw [← e]
 unfold fcs
 have go : ∀ (ms : List (Fsh × Fct)) (z : Fsh × Fct),(ms.foldl (takeE day) z).2 = (ms.map (·.2)).foldl (takeC day) z.2:=by
  intro ms
  induction ms with
  | nil => intro z;rfl
  | cons x r ih =>
    intro z
    rw [List.foldl_cons,ih,List.map_cons,List.foldl_cons]
    congr 1
    unfold takeE takeC
    split <;> rfl
 exact go (movesE pl l) (fsh0,last0)
theorem Qv {l : List (Fsh × Fct)} {pl : Int} : movesE pl l = [] ↔ ¬ ∃ x ∈ fcs l,MvOf pl x:=by
 rw [List.eq_nil_iff_forall_not_mem]
 constructor
 · rintro h ⟨f,hf,q⟩
   unfold fcs at hf
   obtain ⟨p,hp,rfl⟩:=List.mem_map.1 hf
   exact h p (Ln.2 ⟨hp,q⟩)
 · intro h p hp
   have:=Ln.1 hp
   exact h ⟨p.2,List.mem_map.2 ⟨p,this.1,rfl⟩,this.2⟩
def RegIs (L : List Fct) (p day club : Int) : Prop:=0 ≤ (regF L p day).mTo ∧ (regF L p day).mTo = club
noncomputable def regV (L : List Fct) (p day : Int) : Value:=.tuple #[.int .i64 (if (regF L p day).mTo < 0 then 0 else (regF L p day).mTo),.bool (decide (0 ≤ (regF L p day).mTo))]
theorem Cx (h : Ro) (hG : PowG h) (A : Option Addr) (n c : Nat) (l : List (Fsh × Fct)) (hx : FactsAt h A n l) (player day : Int) : Res Tryz.prog 35 #[.slice A n c,.int .i64 player,.int .i64 day] h (fun u _ => u = regV (fcs l) player day):=by
 have:=Vb h hG A n c l hx player day
 rw [Cra] at this
 exact this
open Classical in
theorem off1_c (h : Ro) (hG : PowG h) (A : Option Addr) (n c : Nat) (l : List (Fsh × Fct)) (hx : FactsAt h A n l) (m : Int × Int) (b2 b6 : Nat) (s : Fsh × FScore) (h2 : CellsAt h ⟨b2,0,none⟩ [.slice A n c]) (h6 : CellsAt h ⟨b6,0,none⟩ (encSc s)) : Res Tryz.prog 89 #[.agg (encM2 m).toArray,.pointer (some ⟨b2,0,none⟩),.pointer (some ⟨b6,0,none⟩)] h (fun u _ => u = .bool (!decide ((∃ x ∈ fcs l,MvOf m.1 x) ∧ ¬ RegIs (fcs l) m.1 s.2.day m.2))):=by
 refine Br (args:=[_,_,_]) ts_ok Go.Proofs.Tryz.func89 rfl rfl fun w0 X0 => ?_
 obtain ⟨p,cl⟩:=m
 obtain ⟨sf,sc⟩:=s
 dsimp only
 obtain ⟨vb,hvb⟩ : ∃ vb : Bool,(vb = true ↔ RegIs (fcs l) p sc.day cl):=⟨decide (RegIs (fcs l) p sc.day cl),by simp⟩
 repeat' (first|apply Ad|apply Ah|apply Aa|apply Ab|(apply Aj;(iterate 3 exact J);apply Av (e:=140);exact J;intro b3)|(apply Aj;(iterate 3 exact J);apply Ai (e:=4);exact J;intro b4)|(apply Ac;(iterate 3 exact J))|(apply Aq;exact J;exact Ba rfl QM rfl;exact J;exact J)|(apply Bc;exact J;exact J;(first|(apply Au;exact J;exact Bl rfl h2 rfl));exact QA)|(apply Aj;(iterate 3 exact J);(first|(apply Bf;exact J;exact has79;exact Ama _ A n c p;rintro vr hr1 hle1 ⟨bx,bp,rfl,hcb,hcp⟩;skip))))
 refine Cn (Es':=[Blk b4 4 [.bool false],Blk b3 140 (encM2 (p,cl))]) QT ?_
 refine Fb (R:=FR) (xs:=movesE p l) (gf:=160) (lb:=[.pointer (some ⟨bx,0,none⟩),.pointer (some ⟨bp,0,none⟩)]) rfl rfl has160 (Ala _ A n c l (hx.le hle1) p bx bp hcb hcp) (by rintro x u h2 rfl;rfl) rfl
  (fun pre Es h2 => pre = [] ∧ Es = [Blk b4 4 [.bool false],Blk b3 140 (encM2 (p,cl))])
  (fun cd pre Es h2 => cd = .ret ∧ pre ≠ [] ∧ Es = [Blk b4 4 [.bool vb]])
  (fun pre Es h2 h3 hl e => e) (fun _ _ _ _ _ _ h => h) ⟨rfl,rfl⟩ ?_ ?_ ?_
 · rintro lid r0 w1 X1 pre x post u Es1 h1 hxe rfl ⟨rfl,rfl⟩ hle hst
   have hrg:=fun h' (hl : Le h1 h') => Cx h' (hG.le (hle1.trans (hle.trans hl))) A n c l (hx.le (hle1.trans (hle.trans hl))) p sc.day
   have h2':=(h2.le hle1).le hle
   have h6':=(h6.le hle1).le hle
   unfold regV at hrg
   have hv : vb = true ↔ 0 ≤ (regF (fcs l) p sc.day).mTo ∧ (regF (fcs l) p sc.day).mTo = cl:=hvb
   clear hvb
   generalize (regF (fcs l) p sc.day).mTo = t at *
   by_cases ht : 0 ≤ t
   · rw [if_neg (show ¬ t < 0 by omega),decide_eq_true ht] at hrg
     have e : eqI t cl = vb:=by rw [Bool.eq_iff_iff,Fk,hv];exact ⟨fun q => ⟨ht,q⟩,fun q => q.2⟩
     subst e
     repeat' (first|apply Ad|apply At|apply Ah|apply Aa|apply Ab|(apply Jd;exact J;exact QK;exact hst)|(apply Ac;(iterate 3 exact J))|(apply Aq;exact J;exact Ba rfl QM rfl;exact J;exact J)|(apply Bc;exact J;exact J;(first|(apply Au;exact J;exact Bl rfl h2' rfl)|(apply Au;exact J;exact Ck rfl h6' rfl));exact QA)|(apply Aj;(iterate 3 exact J);(first|(apply Ag;(iterate 3 exact J);exact QR;(iterate 3 exact J);skip)|(apply Bf;exact J;exact Wb;exact hrg _ QL;rintro v2 h3 hle3 rfl;skip))))
     all_goals first
      | (refine Cn (Es':=[LoopA lid { r0 with state:=.busy },Blk b4 4 [.bool (eqI t cl)]]) QT (GO_rRet (r0:=r0) rfl .here ⟨rfl,by simp,rfl⟩))
   · rw [if_pos (show t < 0 by omega),decide_eq_false ht] at hrg
     have e : vb = false:=by rw [← Bool.not_eq_true,hv];exact fun q => ht q.1
     subst e
     repeat' (first|apply Ad|apply At|apply Ah|apply Aa|apply Ab|(apply Jd;exact J;exact QK;exact hst)|(apply Ar;exact J;exact J)|(apply Ac;(iterate 3 exact J))|(apply Aq;exact J;exact Ba rfl QM rfl;exact J;exact J)|(apply Bc;exact J;exact J;(first|(apply Au;exact J;exact Bl rfl h2' rfl)|(apply Au;exact J;exact Ck rfl h6' rfl));exact QA)|(apply Aj;(iterate 3 exact J);(first|(apply Ag;(iterate 3 exact J);exact QR;(iterate 3 exact J);skip)|(apply Bf;exact J;exact Wb;exact hrg _ QL;rintro v2 h3 hle3 rfl;skip))))
     all_goals first
      | (refine Cn (Es':=[LoopA lid { r0 with state:=.busy },Blk b4 4 [.bool false]]) QT (GO_rRet (r0:=r0) rfl .here ⟨rfl,by simp,rfl⟩))
 · rintro D h1 Es1 hle ⟨hnil,rfl⟩
   have hno:=Qv.1 hnil
   rw [show (!decide ((∃ x ∈ fcs l,MvOf p x) ∧ ¬ RegIs (fcs l) p sc.day cl)) = true from by rw [decide_eq_false (fun q => hno q.1)];rfl]
   repeat' (first|apply Ad|apply Ao|apply Aa|apply Ab|(apply Aj;(iterate 3 exact J);(first|(apply Ag;(iterate 3 exact J);exact QR;(iterate 3 exact J);skip))))
   all_goals
    refine Zr (Jv rfl QK (Rt_S (rs:=[.cell 4 4]) (vs:=[.bool true]) rfl rfl ⟨⟨_,rfl,Ba rfl QM rfl⟩,trivial⟩ (List.nil_sublist _) ⟨rfl,rfl⟩))
 · rintro D h1 Es1 cd pre post hxe hle ⟨rfl,hne,rfl⟩
   have hyes : ∃ x ∈ fcs l,MvOf p x:=by
    refine Classical.byContradiction fun q => ?_
    rw [Qv.2 q] at hxe
    have:=(List.append_eq_nil_iff.1 hxe.symm).1
    exact hne this
   rw [show (!decide ((∃ x ∈ fcs l,MvOf p x) ∧ ¬ RegIs (fcs l) p sc.day cl)) = vb from by
    cases vb
    · rw [decide_eq_true ⟨hyes,fun q => by have:=hvb.2 q;cases this⟩];rfl
    · rw [decide_eq_false (fun w => w.2 (hvb.1 rfl))];rfl]
   refine Zr (Jv rfl QK (Rt_S (rs:=[.cell 4 4]) (vs:=[.bool vb]) rfl rfl ⟨⟨_,rfl,Ba rfl QM rfl⟩,trivial⟩ (List.nil_sublist _) ⟨rfl,rfl⟩))
theorem off2_c (h : Ro) (hG : PowG h) (A : Option Addr) (n c : Nat) (l : List (Fsh × Fct)) (hx : FactsAt h A n l) (m : Int × Int) (b2 b6 : Nat) (s : Fsh × FScore) (h2 : CellsAt h ⟨b2,0,none⟩ [.slice A n c]) (h6 : CellsAt h ⟨b6,0,none⟩ (encSc s)) : Res Tryz.prog 90 #[.agg (encM2 m).toArray,.pointer (some ⟨b2,0,none⟩),.pointer (some ⟨b6,0,none⟩)] h (fun u _ => u = .bool (unfitL (canonL (fcs l)) m.1 s.2.day)):=by
 refine Br (args:=[_,_,_]) ts_ok Go.Proofs.Tryz.func90 rfl rfl fun w0 X0 => ?_
 repeat' (first|apply Ad|apply Aa|apply Ab|(apply Ac;(iterate 3 exact J))|(apply Aq;exact J;exact Ba rfl QM rfl;exact J;exact J)|(apply Bc;exact J;exact J;(first|(apply Au;exact J;exact Bl rfl h2 rfl)|(apply Au;exact J;exact Ck rfl h6 rfl));exact QA)|(apply Aj;(iterate 3 exact J);(first|(apply Av;exact J;intro b;skip)|(apply Bf;exact J;exact has37;exact Lz _ (hG.le QL) A n c l (hx.le QL) m.1 s.2.day;rintro v2 h3 hle3 rfl;skip))))
 all_goals first
  | ((first|(apply Bv;(iterate 3 exact J)));rfl)
theorem off3_c (h : Ro) (m : Int × Int) (b7 bm : Nat) (mm : List (Int × Bool)) (h7 : CellsAt h ⟨b7,0,none⟩ [.map (some bm)]) : Fn Tryz.prog 91 #[.agg (encM2 m).toArray,.pointer (some ⟨b7,0,none⟩)] [MapA ekN Value.bool bm mm] h (fun u Es _ => u = .bool ((lookA m.1 mm).getD false) ∧ Es = [MapA ekN Value.bool bm mm]):=by
 refine Bq (args:=[_,_]) ts_ok Go.Proofs.Tryz.func91 rfl rfl fun w0 X0 => ?_
 have hK:=KN
 repeat' (first|apply Ad|apply Aa|apply Ab|(apply Ac;(iterate 3 exact J))|(apply Aq;exact J;exact Ba rfl QM rfl;exact J;exact J)|(apply Bc;exact J;exact J;(first|(apply Au;exact J;exact Bl rfl h7 rfl)|(apply El (ek:=ekN) (ev:=Value.bool) (z0:=false) (key:=m.1) (b:=bm) (m:=mm) hK;(iterate 7 exact J)));exact QA)|(apply Aj;(iterate 3 exact J);(first|(apply Av;exact J;intro b;skip))))
 all_goals first
  | (exact Bw rfl rfl rfl (by (repeat (first|exact List.Sublist.refl _|exact List.nil_sublist _|apply List.Sublist.cons_cons|apply List.Sublist.cons));done) ⟨rfl,rfl⟩)
def BanIs (S : List FSusp) (g : FGame) (mm : List (Int × Bool)) : Prop:=∀ p,(lookA p mm).getD false = true ↔ ∃ s ∈ S,s.p = p ∧ s.g = g
def resV2 (b2 b6 b7 : Nat) : List Value:=[.func (.func 89) #[] #[.pointer (some ⟨b2,0,none⟩),.pointer (some ⟨b6,0,none⟩)],.func (.func 90) #[] #[.pointer (some ⟨b2,0,none⟩),.pointer (some ⟨b6,0,none⟩)],.func (.func 91) #[] #[.pointer (some ⟨b7,0,none⟩)]]
open Classical in
theorem offends_c (h : Ro) (hG : PowG h) (A : Option Addr) (n c : Nat) (l : List (Fsh × Fct)) (hx : FactsAt h A n l) (m : Int × Int) (b2 b6 b7 bm : Nat) (s : Fsh × FScore) (h2 : CellsAt h ⟨b2,0,none⟩ [.slice A n c]) (h6 : CellsAt h ⟨b6,0,none⟩ (encSc s)) (mm : List (Int × Bool)) (h7 : CellsAt h ⟨b7,0,none⟩ [.map (some bm)]) (S : List FSusp) (g : FGame) (hb : BanIs S g mm) :
 Fn Tryz.prog 93 #[.agg (resV2 b2 b6 b7).toArray,.agg (encM2 m).toArray] [MapA ekN Value.bool bm mm] h (fun u Es _ => u = .bool (decide (OffB (fcs l) S g s.2.day m.2 m.1)) ∧ Es = [MapA ekN Value.bool bm mm]):=by
 refine Bq (args:=[_,_]) ts_ok Go.Proofs.Tryz.func93 rfl rfl fun w0 X0 => ?_
 have h1:=fun h' (hl : Le h h') => off1_c h' (hG.le hl) A n c l (hx.le hl) m b2 b6 s (h2.le hl) (h6.le hl)
 have h3:=fun h' (hl : Le h h') => off2_c h' (hG.le hl) A n c l (hx.le hl) m b2 b6 s (h2.le hl) (h6.le hl)
 have h4:=fun h' (hl : Le h h') => off3_c h' m b7 bm mm (h7.le hl)
 have hO : OffB (fcs l) S g s.2.day m.2 m.1 ↔ ((∃ x ∈ fcs l,MvOf m.1 x) ∧ ¬ RegIs (fcs l) m.1 s.2.day m.2) ∨ unfitL (canonL (fcs l)) m.1 s.2.day = true ∨ (lookA m.1 mm).getD false = true:=by
  unfold OffB RegIs
  rw [hb m.1]
 by_cases q1 : (∃ x ∈ fcs l,MvOf m.1 x) ∧ ¬ RegIs (fcs l) m.1 s.2.day m.2
 · rw [decide_eq_true q1] at h1
   rw [decide_eq_true (hO.2 (.inl q1))]
   clear h3 h4
   repeat' (first|apply Ad|apply Aa|apply Ab|(apply Ar;exact J;exact J)|(apply Ac;(iterate 3 exact J))|(apply Aq;exact J;exact Ba rfl QM rfl;exact J;exact J)|(apply Aj;(iterate 3 exact J);(first|(apply Av;exact J;intro b;skip)|(apply Dm (f:=89) (fs:=[]) (cs:=[.pointer (some ⟨b2,0,none⟩),.pointer (some ⟨b6,0,none⟩)]);exact J;exact J;exact has89;exact h1 _ QL;rintro v2 h3 hle3 rfl;skip))))
   all_goals first
    | (exact Bw rfl rfl rfl (by (repeat (first|exact List.Sublist.refl _|exact List.nil_sublist _|apply List.Sublist.cons_cons|apply List.Sublist.cons));done) ⟨rfl,rfl⟩)
 · rw [decide_eq_false q1] at h1
   cases q2 : unfitL (canonL (fcs l)) m.1 s.2.day with
   | true =>
     rw [q2] at h3
     rw [decide_eq_true (hO.2 (.inr (.inl q2)))]
     clear h4
     repeat' (first|apply Ad|apply Aa|apply Ab|(apply Ar;exact J;exact J)|(apply Ac;(iterate 3 exact J))|(apply Aq;exact J;exact Ba rfl QM rfl;exact J;exact J)|(apply Aj;(iterate 3 exact J);(first|(apply Av;exact J;intro b;skip)|(apply Dm (f:=89) (fs:=[]) (cs:=[.pointer (some ⟨b2,0,none⟩),.pointer (some ⟨b6,0,none⟩)]);exact J;exact J;exact has89;exact h1 _ QL;rintro v2 h5 hle5 rfl;skip)|(apply Dm (f:=90) (fs:=[]) (cs:=[.pointer (some ⟨b2,0,none⟩),.pointer (some ⟨b6,0,none⟩)]);exact J;exact J;exact has90;exact h3 _ QL;rintro v4 h6 hle6 rfl;skip))))
     all_goals first
      | (exact Bw rfl rfl rfl (by (repeat (first|exact List.Sublist.refl _|exact List.nil_sublist _|apply List.Sublist.cons_cons|apply List.Sublist.cons));done) ⟨rfl,rfl⟩)
   | false =>
     rw [q2] at h3
     have e : decide (OffB (fcs l) S g s.2.day m.2 m.1) = (lookA m.1 mm).getD false:=by
      rw [Bool.eq_iff_iff,decide_eq_true_eq,hO,q2]
      exact ⟨fun w => (w.resolve_left q1).resolve_left (by simp),fun w => .inr (.inr w)⟩
     rw [e]
     generalize (lookA m.1 mm).getD false = bb at *
     repeat' (first|apply Ad|apply Aa|apply Ab|(apply Ac;(iterate 3 exact J))|(apply Aq;exact J;exact Ba rfl QM rfl;exact J;exact J)|(apply Aj;(iterate 3 exact J);(first|(apply Av;exact J;intro b;skip)|(apply Dm (f:=89) (fs:=[]) (cs:=[.pointer (some ⟨b2,0,none⟩),.pointer (some ⟨b6,0,none⟩)]);exact J;exact J;exact has89;exact h1 _ QL;rintro v2 h5 hle5 rfl;skip)|(apply Dm (f:=90) (fs:=[]) (cs:=[.pointer (some ⟨b2,0,none⟩),.pointer (some ⟨b6,0,none⟩)]);exact J;exact J;exact has90;exact h3 _ QL;rintro v4 h6 hle6 rfl;skip)|(apply Df (f:=91) (fs:=[]) (cs:=[.pointer (some ⟨b7,0,none⟩)]);exact J;exact J;exact has91;exact h4 _ QL;exact QT;rintro v5 Es5 h8 hle8 ⟨rfl,rfl⟩;skip))))
     all_goals first
      | (exact Bw rfl rfl rfl (by (repeat (first|exact List.Sublist.refl _|exact List.nil_sublist _|apply List.Sublist.cons_cons|apply List.Sublist.cons));done) ⟨rfl,rfl⟩)
def OffOut (h : Ro) (u : Value) (o : List Int × List Int) : Prop:=∃ A1 c1 A2 c2,u = .tuple #[.slice A1 o.1.length c1,.slice A2 o.2.length c2] ∧ SlOf encI 1 h A1 o.1.length o.1 ∧ SlOf encI 1 h A2 o.2.length o.2
open Classical in
theorem off4_c (h : Ro) (hG : PowG h) (A : Option Addr) (n c : Nat) (l : List (Fsh × Fct)) (hx : FactsAt h A n l) (B : Option Addr) (nb d : Nat) (sq : List Int) (hsq : SlOf encI 1 h B nb sq) (hnb : nb ≤ 1000000) (cl : Int) (b2 b6 b7 b10 bm : Nat) (s : Fsh × FScore) (h2 : CellsAt h ⟨b2,0,none⟩ [.slice A n c]) (h6 : CellsAt h ⟨b6,0,none⟩ (encSc s)) (mm : List (Int × Bool)) (h7 : CellsAt h ⟨b7,0,none⟩ [.map (some bm)]) (h10 : CellsAt h ⟨b10,0,none⟩ (resV2 b2 b6 b7)) (S : List FSusp) (g : FGame) (hb : BanIs S g mm) :
 Fn Tryz.prog 92 #[.slice B nb d,.int .i64 cl,.pointer (some ⟨b10,0,none⟩)] [MapA ekN Value.bool bm mm] h (fun u Es h' => ∃ A' c',u = .slice A' (offS (fcs l) S g s.2.day cl sq).length c' ∧ SlOf encI 1 h' A' (offS (fcs l) S g s.2.day cl sq).length (offS (fcs l) S g s.2.day cl sq) ∧ Es = [MapA ekN Value.bool bm mm]):=by
 refine Bq (args:=[_,_,_]) ts_ok Go.Proofs.Tryz.func92 rfl rfl fun w0 X0 => ?_
 have hof:=fun h' (hl : Le h h') p => offends_c h' (hG.le hl) A n c l (hx.le hl) (p,cl) b2 b6 b7 bm s (h2.le hl) (h6.le hl) mm (h7.le hl) S g hb
 have hlen:=hsq.len
 have hsn:=Vl (fcs l) S g s.2.day cl
 have hsl:=Mz (fcs l) S g s.2.day cl
 have hO0 : offS (fcs l) S g s.2.day cl [] = []:=by unfold offS;rfl
 dsimp only at hof
 obtain ⟨qb,hqb⟩ : ∃ qb : Int → Bool,∀ p,qb p = decide (OffB (fcs l) S g s.2.day cl p):=⟨_,fun _ => rfl⟩
 have hof : ∀ h' (hl : Le h h') p,Fn Tryz.prog 93 #[.agg (resV2 b2 b6 b7).toArray,.agg (encM2 (p,cl)).toArray] [MapA ekN Value.bool bm mm] h' (fun u Es _ => u = .bool (qb p) ∧ Es = [MapA ekN Value.bool bm mm]):=fun h' hl p => by rw [hqb p];exact hof h' hl p
 have hsn : ∀ sq p,offS (fcs l) S g s.2.day cl (sq ++ [p]) = if qb p = true then offS (fcs l) S g s.2.day cl sq ++ [p] else offS (fcs l) S g s.2.day cl sq:=fun sq p => by
  rw [hsn sq p,hqb p]
  by_cases q : OffB (fcs l) S g s.2.day cl p
  · rw [if_pos q,decide_eq_true q,if_pos rfl]
  · rw [if_neg q,decide_eq_false q,if_neg (by simp)]
 clear hqb
 generalize offS (fcs l) S g s.2.day cl = O at *
 clear hx h2 h6 h7 hb
 repeat' (first|apply Ad|apply Ah|apply Aa|apply Ab|(apply Ac;(iterate 3 exact J)))
 refine Cz 3 1 ?_
 refine Bi (X:=Nat × List Int × Option Addr × Nat × Ro) (fun x => x.1 ≤ nb ∧ Le h x.2.2.2.2 ∧ x.2.1 = O (sq.take x.1)) (fun x => nb - x.1)
  (fun x => [(10,.int .i64 x.1),(9,.int .i64 nb),(8,.slice B nb d),(5,.slice x.2.2.1 x.2.1.length x.2.2.2.1),(1,.int .i64 cl),(2,ptrV b10)])
  (fun x => [OwnS 3 1 (.slice x.2.2.1 x.2.1.length x.2.2.2.1) x.2.1.length (x.2.1.flatMap encI),MapA ekN Value.bool bm mm]) (fun x => x.2.2.2.2) (0,[],none,0,h) ⟨by dsimp only;omega,Le.refl _,hO0.symm⟩ QS QT rfl ?_
 rintro ⟨k,out,A4,c4,hh⟩ ⟨hk,hle,ho⟩ ih
 dsimp only at hk hle ho ih ⊢
 have hol : out.length ≤ k:=by
  rw [ho]
  refine Nat.le_trans (hsl _) ?_
  rw [List.length_take];omega
 by_cases hkn : k < nb
 · have a1:=hsq.addrD hkn
   have c1 : CellsAt hh ((addrD B).add (k * ty3.size)) (encI (sq.getD k 0)):=(hsq.cellsD 0 hkn).le hle
   have et:=Cr 0 (xs:=sq) hlen hkn
   have c10:=h10.le hle
   generalize sq.getD k 0 = p at *
   have e0:=hsn (sq.take k) p
   rw [← et,← ho] at e0
   have hof:=fun h' (hl : Le hh h') => hof h' (hle.trans hl) p
   cases hq : qb p with
   | true =>
     rw [hq] at e0 hof
     rw [if_pos rfl] at e0
     clear hsn hsl
     repeat' (first|apply Ad|apply At|apply Ao|apply Ah|apply Aa|apply Ab|(apply Bg;(iterate 3 exact J);omega;exact J;exact J)|(apply Ac;(iterate 3 exact J))|(apply Bc;exact J;exact J;(first|(apply Bd (j:=k);(iterate 5 exact J);exact a1;(with_reducible exact J);omega)|(apply Au;exact J;apply Bl;exact J;(with_reducible exact c1);exact J)|(apply Au;exact J;apply Bl;exact J;(with_reducible exact c10);exact J));exact QA)|(apply Aj;(iterate 3 exact J);(first|(apply Bo;exact J;exact has93;exact hof _ QL;exact QT;rintro v5 Es5 h8 hle8 ⟨rfl,rfl⟩;skip)|(apply Az (enc:=encI) (n:=1) [p];(iterate 3 exact J);exact List.cons_ne_nil _ _;(iterate 4 exact J);exact fun _ => rfl;exact J;exact J;intro b5 h9 hle9 hs5;skip)|(apply Bj (enc:=encI) (xs:=out);(iterate 7 exact J);exact hs5;exact fun _ => rfl;exact fun x => Bz rfl;intro v1;exact QR;omega;exact J;intro A5 c5;skip)))|(apply Af;exact J;all_goals (intro hc;try simp only [hcS,reduceCtorEq] at hc;try (exfalso;omega))))
     all_goals first
      | (exfalso;omega)
      | (exfalso;simp at hc;done)
      | (have h3:=ih (k + 1,out ++ [p],A5,c5,h9) ⟨by dsimp only;omega,hle.trans (hle8.trans hle9),by dsimp only;rw [e0]⟩ (by dsimp only;omega)
         dsimp only at h3
         rw [List.length_append] at h3
         refine Bk QS QT (h3))
   | false =>
     rw [hq] at e0 hof
     rw [if_neg (by simp)] at e0
     clear hsn hsl
     repeat' (first|apply Ad|apply At|apply Ao|apply Ah|apply Aa|apply Ab|(apply Bg;(iterate 3 exact J);omega;exact J;exact J)|(apply Ac;(iterate 3 exact J))|(apply Bc;exact J;exact J;(first|(apply Bd (j:=k);(iterate 5 exact J);exact a1;(with_reducible exact J);omega)|(apply Au;exact J;apply Bl;exact J;(with_reducible exact c1);exact J)|(apply Au;exact J;apply Bl;exact J;(with_reducible exact c10);exact J));exact QA)|(apply Aj;(iterate 3 exact J);(first|(apply Bo;exact J;exact has93;exact hof _ QL;exact QT;rintro v5 Es5 h8 hle8 ⟨rfl,rfl⟩;skip)))|(apply Af;exact J;all_goals (intro hc;try simp only [hcS,reduceCtorEq] at hc;try (exfalso;omega))))
     all_goals first
      | (exfalso;omega)
      | (exfalso;simp at hc;done)
      | (have h3:=ih (k + 1,out,A4,c4,h8) ⟨by dsimp only;omega,hle.trans hle8,by dsimp only;rw [e0]⟩ (by dsimp only;omega)
         dsimp only at h3
         refine Bk QS QT (h3))
 · rw [List.take_of_length_le (by omega)] at ho
   clear ih hof hsn hsl
   rw [← ho]
   refine Dg (enc:=encI) (e:=3) (sz:=1) (n:=out.length) (xs:=out) (fun _ => rfl) rfl QK ?_
   intro A7 c7 h8 hle8 e7 hnc7 hs7
   cases e7
   repeat' (first|apply Ad|apply Aa|apply Ab|(apply Bm;exact J)|(apply Ac;(iterate 3 exact J))|(apply Af;exact J;all_goals (intro hc;try simp only [hcS,reduceCtorEq] at hc;try (exfalso;omega))))
   all_goals first
    | (exfalso;omega)
    | (exact Bw rfl rfl rfl (by (repeat (first|exact List.Sublist.refl _|exact List.nil_sublist _|apply List.Sublist.cons_cons|apply List.Sublist.cons));done) ⟨A4,c4,rfl,hs7,rfl⟩)
def banM (g : FGame) (S : List FSusp) : List (Int × Bool):=S.foldl (fun m s => if s.g = g then insA s.p true m else m) []
theorem Wv (g : FGame) (S : List FSusp) (s : FSusp) : banM g (S ++ [s]) = if s.g = g then insA s.p true (banM g S) else banM g S:=by unfold banM;rw [List.foldl_append];rfl
theorem banM_is (g : FGame) (S : List FSusp) : BanIs S g (banM g S):=by
 refine Caa (P:=fun S => BanIs S g (banM g S)) (fun p => ?_) (fun S s ih p => ?_) S
 · constructor
   · intro h;cases h
   · rintro ⟨s,hs,_⟩;cases hs
 · rw [Wv]
   have:=ih p
   by_cases hg : s.g = g
   · rw [if_pos hg,Qa]
     by_cases hp : s.p = p
     · rw [if_pos hp]
       exact ⟨fun _ => ⟨s,by simp,hp,hg⟩,fun _ => rfl⟩
     · rw [if_neg hp,this]
       constructor
       · rintro ⟨t,h1,h2⟩;exact ⟨t,by simp [h1],h2⟩
       · rintro ⟨t,h1,h2⟩
         rw [List.mem_append,List.mem_singleton] at h1
         rcases h1 with h1|rfl
         · exact ⟨t,h1,h2⟩
         · exact absurd h2.1 hp
   · rw [if_neg hg,this]
     constructor
     · rintro ⟨t,h1,h2⟩;exact ⟨t,by simp [h1],h2⟩
     · rintro ⟨t,h1,h2⟩
       rw [List.mem_append,List.mem_singleton] at h1
       rcases h1 with h1|rfl
       · exact ⟨t,h1,h2⟩
       · exact absurd h2.2 hg
theorem offL_no {L : List Fct} {g : FGame} (h : (scoreF L g).kind ≠ 2) : offL L g = ([],[]):=by unfold offL;rw [if_neg h]
theorem Aja {L : List Fct} {g : FGame} {x : FScore} (hx : scoreF L g = x) (h : x.kind = 2) : offL L g = (offS L (suspC (decC L g.s g.c)) g x.day g.h x.sh.hs,offS L (suspC (decC L g.s g.c)) g x.day g.a x.sh.asn):=by unfold offL;rw [hx,if_pos h]
def su0 : FSusp:=⟨0,0,game0⟩
theorem Gf (h : Ro) (hG : PowG h) (A : Option Addr) (n c : Nat) (l : List (Fsh × Fct)) (hx : FactsAt h A n l) (hn6 : n ≤ 65536) (g : FGame) : Res Tryz.prog 42 #[.slice A n c,gameV g] h (fun u h' => OffOut h' u (offL (fcs l) g)):=by
 refine Br (args:=[_,_]) ts_ok Go.Proofs.Tryz.func42 rfl rfl fun w0 X0 => ?_
 have hsc:=fun h' (hl : Le h h') => Sc h' (hG.le hl) A n c l (hx.le hl) g
 have hsu:=fun h' (hl : Le h h') => Ex h' (hG.le hl) A n c l (hx.le hl) hn6 g.s g.c
 have hno:=offL_no (L:=fcs l) (g:=g)
 have hyes:=fun x => Aja (L:=fcs l) (g:=g) (x:=x)
 have hsh:=Dc (Fh hx) (g:=g)
 rw [show cont l = fcs l from rfl] at hsc
 generalize hsx : scoreF (fcs l) g = x at *
 generalize suspC (decC (fcs l) g.s g.c) = S at *
 by_cases hk2 : x.kind = 2
 case' neg =>
  rw [hno hk2]
  clear hsu hno hyes
  repeat' (first|apply Ad|apply Aa|apply Ab|(apply Ac;(iterate 3 exact J))|(apply Aq;exact J;exact Ba rfl QM rfl;exact J;exact J)|(apply Aj;(iterate 3 exact J);(first|(apply Ag;(iterate 3 exact J);exact QR;(iterate 3 exact J);skip)|(apply Av;exact J;intro b;skip)|(apply Ai;exact J;intro b;skip)|(apply Bf;exact J;exact Cwa;exact hsc _ QL;rintro w2 h2 hle2 ⟨s,rfl,hs1,hs2⟩;skip)))|(apply Af;exact J;all_goals (intro hc;try simp only [hcS,reduceCtorEq] at hc;try (exfalso;omega))))
  all_goals first
   | (exfalso;omega)
   | (exact Gq rfl rfl rfl rfl ⟨none,0,none,0,rfl,SlOf.nil,SlOf.nil⟩)
 have hyes:=hyes x rfl hk2
 have hsz : x.sh.hs.length ≤ 1000000 ∧ x.sh.asn.length ≤ 1000000:=by
  obtain ⟨f,_,ok,kf,e,_⟩:=hsh hk2
  have:=ok.2.2.1
  unfold ContOk at this
  rw [if_neg (by omega),if_neg (by omega),if_pos kf,e] at this
  have h1:=this.2.2.2.2.2.1.1
  have h2:=this.2.2.2.2.2.2.1.1
  omega
 rw [hyes]
 clear hno hyes hsh
 repeat' (first|apply Ad|apply At|apply Ah|apply Aa|apply Ab|(apply Aj;(iterate 3 exact J);apply Av (e:=22);exact J;intro b2)|(apply Aj;(iterate 3 exact J);apply Av (e:=35);exact J;intro b3)|(apply Aj;(iterate 3 exact J);apply Ai (e:=84);exact J;intro b6)|(apply Aj;(iterate 3 exact J);apply Ai (e:=146);exact J;intro b7)|(apply Ac;(iterate 3 exact J))|(apply Aq;exact J;exact Ba rfl QM rfl;exact J;exact J)|(apply Aj;(iterate 3 exact J);(first|(apply Ag;(iterate 3 exact J);exact QR;(iterate 3 exact J);skip)|(apply Bf;exact J;exact Cwa;exact hsc _ QL;rintro w2 h3 hle3 ⟨s,rfl,hs1,hs2⟩;skip)|(apply Dk ekN Value.bool;intro bm;skip)|(apply Bf;exact J;exact has40;exact hsu _ QL;rintro w4 h4 hle4 ⟨A5,c5,rfl,hsS,hSn⟩;skip)))|(apply Af;exact J;all_goals (intro hc;try simp only [hcS,reduceCtorEq] at hc;try (exfalso;omega))))
 all_goals (try (exfalso;omega))
 have hK:=KN
 refine Bi (X:=Nat) (fun k => k ≤ S.length) (fun k => S.length - k)
  (fun k => [(26,.int .i64 k),(25,.int .i64 S.length),(24,.slice A5 S.length c5),(7,ptrV b7),(6,ptrV b6),(3,ptrV b3),(2,ptrV b2)])
  (fun k => [MapA ekN Value.bool bm (banM g (S.take k)),Blk b7 146 [.map (some bm)],Blk b6 84 (encSc (s,x)),Blk b3 35 (gameC g),Blk b2 22 [.slice A n c]]) (fun _ => h4) 0 (by omega) QS QT rfl ?_
 rintro k hk ih
 by_cases hkn : k < S.length
 · have a1:=hsS.addrD hkn
   have c1:=hsS.cellsD su0 hkn
   have et:=Cr su0 (xs:=S) rfl hkn
   generalize S.getD k su0 = z at *
   have hsn:=Wv g (S.take k) z
   rw [← et] at hsn
   have h9:=ih (k + 1) (by omega) (by omega)
   rw [hsn] at h9
   generalize banM g (S.take k) = mm at *
   have hge:=Ie z.g g
   clear ih hsn et hsc hsu
   by_cases hzg : z.g = g
   · rw [if_pos hzg] at h9
     rw [decide_eq_true hzg] at hge
     repeat' (first|apply Ad|apply At|apply Ao|apply Ah|apply Aa|apply Ab|(apply Bg;(iterate 3 exact J);omega;exact J;exact J)|(apply Ac;(iterate 3 exact J))|(apply Aq;exact J;exact Ba rfl QM rfl;exact J;exact J)|(apply Bc;exact J;exact J;(first|(apply Bd (j:=k);(iterate 5 exact J);exact a1;(with_reducible exact J);omega)|(apply Au;exact J;exact Bl rfl c1 rfl)|(apply Da;exact J;exact J;exact hge;kernel_rfl;kernel_rfl));exact QA)|(apply Aj;(iterate 3 exact J);(first|(apply Ag;(iterate 3 exact J);exact QR;(iterate 3 exact J);skip)|(apply Ai;exact J;intro b;skip)|(apply Co (ek:=ekN) (ev:=Value.bool) (b:=bm) (m:=mm) (key:=z.p) (u:=true) hK;(iterate 6 exact J);exact QR;skip)))|(apply Af;exact J;all_goals (intro hc;try simp only [hcS,reduceCtorEq] at hc;try (exfalso;omega))))
     all_goals first
      | (exfalso;omega)
      | (exfalso;simp at hc;done)
      | (refine Bk QS QT (h9))
   · rw [if_neg hzg] at h9
     rw [decide_eq_false hzg] at hge
     repeat' (first|apply Ad|apply At|apply Ao|apply Ah|apply Aa|apply Ab|(apply Bg;(iterate 3 exact J);omega;exact J;exact J)|(apply Ac;(iterate 3 exact J))|(apply Aq;exact J;exact Ba rfl QM rfl;exact J;exact J)|(apply Bc;exact J;exact J;(first|(apply Bd (j:=k);(iterate 5 exact J);exact a1;(with_reducible exact J);omega)|(apply Au;exact J;exact Bl rfl c1 rfl)|(apply Da;exact J;exact J;exact hge;kernel_rfl;kernel_rfl));exact QA)|(apply Aj;(iterate 3 exact J);(first|(apply Ag;(iterate 3 exact J);exact QR;(iterate 3 exact J);skip)|(apply Ai;exact J;intro b;skip)))|(apply Af;exact J;all_goals (intro hc;try simp only [hcS,reduceCtorEq] at hc;try (exfalso;omega))))
     all_goals first
      | (exfalso;omega)
      | (exfalso;simp at hc;done)
      | (refine Bk QS QT (h9))
 · rw [List.take_of_length_le (by omega)]
   clear ih hsc hsu
   have hban:=banM_is g S
   have hle0 : Le h h4:=QL
   have hhs:=(hs1.hs.le hle4)
   have has':=(hs1.asn.le hle4)
   have hn1:=hs1.hs.len
   have hn2:=hs1.asn.len
   generalize banM g S = mm at *
   refine Dz (b:=b2) (e:=22) QK ?_
   intro q1 hq1 d2
   refine Dz (b:=b6) (e:=84) QK ?_
   intro q2 hq2 d6
   refine Dz (b:=b7) (e:=146) QK ?_
   intro q3 hq3 d7
   refine Dz (b:=b3) (e:=35) QK ?_
   intro q4 hq4 d3
   have hle9 : Le h q4:=hle0.trans (hq1.trans (hq2.trans (hq3.trans hq4)))
   have d2:=d2.le (hq2.trans (hq3.trans hq4))
   have d6:=d6.le (hq3.trans hq4)
   have d7:=d7.le hq4
   have hhs:=hhs.le (hq1.trans (hq2.trans (hq3.trans hq4)))
   have has':=has'.le (hq1.trans (hq2.trans (hq3.trans hq4)))
   have hside1:=fun h' (hl : Le q4 h') b10 (h10 : CellsAt h' ⟨b10,0,none⟩ (resV2 b2 b6 b7)) => off4_c h' (hG.le (hle9.trans hl)) A n c l (hx.le (hle9.trans hl)) s.hs.A s.hs.n s.hs.c x.sh.hs (hhs.le hl) (by omega) g.h b2 b6 b7 b10 bm (s,x) (d2.le hl) (d6.le hl) mm (d7.le hl) h10 S g hban
   have hside2:=fun h' (hl : Le q4 h') b10 (h10 : CellsAt h' ⟨b10,0,none⟩ (resV2 b2 b6 b7)) => off4_c h' (hG.le (hle9.trans hl)) A n c l (hx.le (hle9.trans hl)) s.asn.A s.asn.n s.asn.c x.sh.asn (has'.le hl) (by omega) g.a b2 b6 b7 b10 bm (s,x) (d2.le hl) (d6.le hl) mm (d7.le hl) h10 S g hban
   dsimp only at hside1 hside2
   generalize offS (fcs l) S g x.day g.h x.sh.hs = o1 at *
   generalize offS (fcs l) S g x.day g.a x.sh.asn = o2 at *
   clear hx hhs has' hban
   repeat' (first|apply Ad|apply Aa|apply Ab|(apply Bm;exact J)|(apply Aj;(iterate 3 exact J);apply Ai (e:=149);exact J;intro b10)|(apply Ac;(iterate 3 exact J))|(apply Aj;(iterate 3 exact J);(first|(apply Ag;(iterate 3 exact J);exact QR;(iterate 3 exact J);skip)))|(apply Bh (n:=13) [0,1,2,3,4,5,6,7,8,9,10,11,12,13,14,15] [(0,0),(1,0),(2,0),(3,0),(4,0),(5,0),(7,0),(8,0),(9,0),(10,0),(11,0),(12,0),(6,1),(13,1),(14,0),(15,0)];kernel_rfl)|(apply Ca;exact J;kernel_rfl;(iterate 3 exact J))|(apply Ci;exact J;kernel_rfl;exact J;exact J;(first|(apply Au;exact J;exact Ck rfl (d3.le QL) rfl)|(apply Au;exact J;exact Cf rfl (d6.le QL) rfl));exact QA)|(apply Bt;exact J;kernel_rfl;(iterate 3 exact J);(first|(refine Ch (b:=b10) (e:=149) QK ?_;intro h5 hle5 d10;apply Df (f:=92) (fs:=[]) (cs:=[.pointer (some ⟨b10,0,none⟩)]);exact J;exact J;exact has92;exact hside1 _ QL b10 d10;exact QT;rintro v5 Es5 h8 hle8 ⟨A8,c8,rfl,hs8,rfl⟩;refine ⟨hle5.trans hle8,QN,?_⟩)|(apply Df (f:=92) (fs:=[]) (cs:=[.pointer (some ⟨b10,0,none⟩)]);exact J;exact J;exact has92;exact hside2 _ QL b10 (d10.le QL);exact QT;rintro v6 Es6 h9 hle9' ⟨A9,c9,rfl,hs9,rfl⟩;refine ⟨hle9',QN,?_⟩)))|(apply Bn;kernel_rfl;exact J)|(apply Af;exact J;all_goals (intro hc;try simp only [hcS,reduceCtorEq] at hc;try (exfalso;omega))))
   all_goals first
    | (exfalso;omega)
    | (exact Gq rfl rfl rfl rfl ⟨A8,c8,A9,c9,rfl,hs8.le QL,hs9⟩)
end Go.Hw

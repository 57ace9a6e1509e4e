import Derived.Test.YtgbamiehiokacaaGreatDoorVC
import Derived.Test.YtgbamiehiokacaaGreatDoorHD
set_option linter.unusedVariables false
set_option linter.unusedSimpArgs false
set_option maxRecDepth 100000
set_option maxHeartbeats 8000000
namespace Go.Hw
open Go
attribute [local irreducible] GO GOl GDp Val Fn Res CellsAt ValE Blk OwnS MapA OwnPf Has Yl SepA forceL
open Go.Proofs (Tryz.prog)
def FRv (x : Ivl) (u : List Value) (h : Ro) : Prop:=u = [ivlV x]
theorem valuesV_c (h : Ro) (A : Option Addr) (n c : Nat) : Res Tryz.prog 150 #[.slice A n c] h (fun u h' => ∃ b1,u = .func (.func 211) #[] #[.pointer (some ⟨b1,0,none⟩)] ∧ CellsAt h' ⟨b1,0,none⟩ [.slice A n c]):=by
 refine Bn (args:=[_]) ts_ok Go.Proofs.Tryz.func150 rfl rfl fun w0 X0 => ?_
 repeat' (first|apply Ad|apply Aa|apply Ab|(apply Ac;(iterate 3 exact J))|(apply Aj;(iterate 3 exact J);(first|(apply Ay;exact J;intro b;skip))))
 generalize b = b1
 refine Hj (b:=b1) (e:=64) (cs:=[.slice A n c]) QK ?_
 intro h1 hle1 hc1
 (first|(apply Ca;(iterate 3 exact J)))
 exact ⟨b1,rfl,hc1⟩
theorem valSeq (h : Ro) (A : Option Addr) (n c : Nat) (l : List Ivl) (hx : SlOf encV 2 h A n l) (hn : n ≤ 1000000) (b1 : Nat) (hb1 : CellsAt h ⟨b1,0,none⟩ [.slice A n c]) : SeqR Tryz.prog 211 [.pointer (some ⟨b1,0,none⟩)] FRv l h:=by
 intro lid I Ix mI mIx hround Es h1 hle h0
 refine Bu (args:=[_,_]) ts_ok Go.Proofs.Tryz.func211 rfl rfl fun w0 X0 => ?_
 have hlen:=hx.len
 have hd1:=hb1.le hle
 repeat' (first|apply Ad|apply Ag|apply Aa|apply Ab|(apply Ac;(iterate 3 exact J))|(apply Bc;exact J;exact J;(first|(apply Aw;exact J;exact Bp rfl hd1 rfl));exact QA))
 refine Mq (X:=Nat × List Asn × Ro) (fun x => x.1 ≤ n ∧ Le h x.2.2 ∧ I (l.take x.1) x.2.1 x.2.2) (fun x => n - x.1) (fun x => [(7,.int .i64 x.1),(6,.int .i64 n),(5,.slice A n c),(0,.func (.yield lid) #[] #[])])
  (fun x => x.2.1) (fun x => x.2.2) (0,Es,h1) ⟨by omega,hle,h0⟩ QS rfl rfl ?_
 rintro ⟨k,Es1,hk⟩ ⟨hkn,hlk,hI⟩ ih
 dsimp only at hkn hlk hI ih ⊢
 by_cases hkn2 : k < n
 · have a1:=hx.addrD hkn2
   have c1:=(hx.cellsD v0 hkn2).le hlk
   have et:=Cq v0 hlen hkn2
   have hsplit:=Pg v0 (l:=l) hlen hkn2
   generalize l.getD k v0 = p at *
   have hyl : Yl Tryz.prog lid [ivlV p] Es1 hk fun v Es' h' => (v = .bool true ∧ I (l.take (k + 1)) Es' h') ∨ (v = .bool false ∧ Ix (l.take (k + 1)) Es' h'):=by
    rw [et]
    exact hround _ _ _ _ _ _ hsplit hlk rfl hI
   repeat' (first|apply Ad|apply Ap|apply Ah|apply Ag|apply Aa|apply Ab|(apply Be;(iterate 3 exact J);omega;exact J;exact J)|(apply Ac;(iterate 3 exact J))|(apply Aq;exact J;exact Bd rfl QM rfl;exact J;exact J)|(apply Bc;exact J;exact J;(first|(apply Bb (j:=k);(iterate 5 exact J);exact a1;(with_reducible exact J);omega)|(apply Aw;exact J;exact Bp rfl c1 rfl));exact QA)|(apply Aj;(iterate 3 exact J);(first|(apply Ao;(iterate 3 exact J);exact QR;(iterate 3 exact J);skip)|(apply At;exact J;intro b;skip)|(refine Kj (List.perm_append_comm (l₁:=[_])) ?_;apply Qn (Es0:=Es1) (Fs:=[_]);(iterate 3 exact J);exact hyl;rintro v E2 h2 hle2 (⟨rfl,hP⟩|⟨rfl,hP⟩);all_goals skip)))|(apply Af;exact J;all_goals (intro hc;try simp only [hcS,reduceCtorEq] at hc;try (exfalso;omega))))
   all_goals first
    | (exfalso;omega)
    | (have h3:=ih (k + 1,E2,h2) ⟨by show k + 1 ≤ n;omega,hlk.trans hle2,hP⟩ (by show n - (k + 1) < n - k;omega)
       refine Lq (List.perm_append_comm (l₁:=E2) (l₂:=[_])) (GO_drop .here ?_)
       exact Ye QS h3)
    | (exact Lo (rs:=[]) (vs:=[]) (Fs:=E2) rfl rfl trivial (List.sublist_append_left _ _) (.inr ⟨l.take (k + 1),l.drop (k + 1),(List.take_append_drop _ _).symm,hP⟩))
 · rw [List.take_of_length_le (by omega)] at hI
   repeat' (first|apply Ad|apply Aa|apply Ab|(apply Bi;exact J)|(apply Ac;(iterate 3 exact J))|(apply Af;exact J;all_goals (intro hc;try simp only [hcS,reduceCtorEq] at hc;try (exfalso;omega))))
   exact Di (rs:=[]) (vs:=[]) rfl rfl trivial (.inl hI)
theorem Vw (h : Ro) (g : FuncId) (hg : Has Tryz.prog g) (b1 : Nat) (xs : List Ivl) (hn : xs.length ≤ 1000000) (hs : SeqR Tryz.prog g [.pointer (some ⟨b1,0,none⟩)] FRv xs h) :
 Fn Tryz.prog 290 #[.slice none 0 0,.func (.func g) #[] #[.pointer (some ⟨b1,0,none⟩)]] [] h fun u Es _ => Es = [OwnS 42 2 u xs.length (xs.flatMap encV)]:=by
 refine Bu (args:=[_,_]) ts_ok Go.Proofs.Tryz.func290 rfl rfl fun w0 X0 => ?_
 repeat' (first|apply Ad|apply Ag|apply Aa|apply Ab|(apply Ac;(iterate 3 exact J))|(apply Aj;(iterate 3 exact J);(first|(apply Ay;exact J;intro b;skip))))
 generalize b = bT
 refine Do 42 2 ?_
 refine Cx (Es':=[Blk bT 64 [.slice none 0 0],OwnS 42 2 (.slice none 0 0) 0 []]) QT ?_
 refine Kp (R:=FRv) (xs:=xs) (gf:=g) (lb:=[.pointer (some ⟨b1,0,none⟩)]) rfl rfl hg hs (by rintro x u h2 rfl;rfl) rfl
  (fun pre Es h2 => ∃ (A : Option Addr) (c : Nat),Es = [Blk bT 64 [.slice A pre.length c],OwnS 42 2 (.slice A pre.length c) pre.length (pre.flatMap encV)]) (fun _ _ _ _ => False)
  (fun pre Es h2 h3 hl e => e) (fun _ _ _ _ _ _ h => h.elim) ⟨none,0,rfl⟩ ?_ ?_ (fun _ _ _ _ _ _ _ _ h => h.elim)
 · rintro lid r0 w1 X1 pre x post u Es1 h1 hxe rfl ⟨A,c,rfl⟩ hle hst
   have hpl : pre.length + 1 ≤ xs.length:=by rw [hxe];simp
   repeat' (first|apply Ah|apply Ag|apply Aa|apply Ab|(apply A2a;exact J;exact QK;exact hst)|(apply Aq;exact J;exact Bd rfl QM rfl;exact J;exact J)|(apply Aj;(iterate 3 exact J);(first|(apply Ao;(iterate 3 exact J);exact QR;(iterate 3 exact J);skip)|(apply At;exact J;intro b;skip)|(apply Ar (enc:=encV) (n:=1) [x];(iterate 3 exact J);exact List.cons_ne_nil _ _;(iterate 4 exact J);exact fun _ => rfl;exact J;exact J;intro b5 h5 hle5 hs5;skip)|(apply Bo (enc:=encV) (xs:=pre);(iterate 7 exact J);exact hs5;exact fun _ => rfl;exact fun x => Bz rfl;intro v1;exact QR;omega;exact J;intro A3 c3;skip))))
   all_goals
    refine Cx (Es':=[LoopA lid { r0 with state:=.busy },Blk bT 64 [.slice A3 (pre.length + 1) c3],OwnS 42 2 (.slice A3 (pre.length + 1) c3) (pre.length + 1) ((pre ++ [x]).flatMap encV)]) QT (GO_rEnd (r0:=r0) rfl .here ⟨A3,c3,?_⟩)
    rw [List.length_append];rfl
 · rintro D h1 Es1 hle ⟨A,c,rfl⟩
   repeat' (first|apply Ad|apply Ah|apply Aa|apply Ab|(apply Ac;(iterate 3 exact J))|(apply Aq;exact J;exact Bd rfl QM rfl;exact J;exact J))
   all_goals
    refine GO_rt (Rt_mark rfl QK (Rt_S (rs:=[.tmp 4]) (vs:=[.slice A xs.length c]) (Fs:=[OwnS 42 2 (.slice A xs.length c) xs.length (xs.flatMap encV)]) rfl rfl ⟨rfl,trivial⟩ (by (repeat (first|exact List.Sublist.refl _|exact List.nil_sublist _|apply List.Sublist.cons_cons|apply List.Sublist.cons));done) rfl))
theorem Boa (h : Ro) (g : FuncId) (hg : Has Tryz.prog g) (b1 : Nat) (xs : List Ivl) (hn : xs.length ≤ 1000000) (hs : SeqR Tryz.prog g [.pointer (some ⟨b1,0,none⟩)] FRv xs h) :
 Fn Tryz.prog 209 #[.func (.func g) #[] #[.pointer (some ⟨b1,0,none⟩)]] [] h fun u Es _ => Es = [OwnS 42 2 u xs.length (xs.flatMap encV)]:=by
 refine Bu (args:=[_]) ts_ok Go.Proofs.Tryz.func209 rfl rfl fun w0 X0 => ?_
 repeat' (first|apply Ad|apply Aa|apply Ab|(apply Ac;(iterate 3 exact J))|(apply Aj;(iterate 3 exact J);(first|(apply Bt;exact J;exact has290;exact Vw _ g hg b1 xs hn (hs.le QL);exact QT;rintro vc Ec hc1 hlc rfl;skip))))
 all_goals exact Cf rfl rfl rfl (.cons_cons _ (List.nil_sublist _)) rfl
theorem union1_c (h : Ro) (x y : Ivl) : Val Tryz.prog 151 #[ivlV x,ivlV y] h (.int .i64 (cmpI x.lo y.lo)):=by
 refine Au (args:=[_,_]) ts_ok Go.Proofs.Tryz.func151 rfl rfl fun w0 X0 => ?_
 repeat' (first|apply Ad|apply Aa|apply Ab|(apply Ac;(iterate 3 exact J))|(apply Aq;exact J;exact Bd rfl QM rfl;exact J;exact J)|(apply Aj;(iterate 3 exact J);(first|(apply Ay;exact J;intro b;skip)|(apply Ai;exact J;exact has71;exact Xq _ _ _;skip)))|(apply Av;(iterate 3 exact J)))
 all_goals rfl
theorem ltOfV (x y : Ivl) : Go.Proofs.ltOf (fun (x y : Ivl) => cmpI x.lo y.lo) x y = decide (x.lo < y.lo):=by
 unfold Go.Proofs.ltOf
 rw [decide_eq_decide];exact Og
theorem cmpV_swo : Go.Sort.SWO (Go.Proofs.ltOf fun (x y : Ivl) => cmpI x.lo y.lo) where
 irrefl x:=by rw [ltOfV,decide_eq_false_iff_not];omega
 trans x y z h1 h2:=by rw [ltOfV,decide_eq_true_eq] at *;omega
 ntrans x y z h1 h2:=by rw [ltOfV,decide_eq_false_iff_not] at *;omega
theorem sortV_c (h : Ro) (v : Value) (xs : List Ivl) (n : Nat) (hn : n ≤ 1000000) (hx : xs.length = n) :
 Fn Tryz.prog 210 #[v,.func (.func 151) #[] #[]] [OwnS 42 2 v n (xs.flatMap encV)] h fun u Es _ => u = .tuple #[] ∧ ∃ ys : List Ivl,ys.Perm xs ∧ (ys.Pairwise fun x y => x.lo ≤ y.lo) ∧ Es = [OwnS 42 2 v n (ys.flatMap encV)]:=by
 have hN : ∀ (p : Option Addr) (cap : Nat) (w : World),Calls Tryz.prog 210 #[.slice p 0 cap,.func (.func 151) #[] #[]] w fun e w' => e = .returned (.tuple #[]) ∧ w' = w:=fun p cap w => Go.Proofs.AnyF.slices_SortFunc_none Go.Proofs.Tryz.sortIvls p cap _ w
 haveI : Inhabited Ivl:=⟨v0⟩
 have hC : ∀ (blk off cap : Nat) (d : Array Ivl) (w : World),Go.Proofs.CmpLays Tryz.prog 151 #[] encV 2 (fun x y => cmpI x.lo y.lo) blk off d.size w → Go.Sort.HoldsK encV 2 w blk off d → blk < w.heap.size → d.size < 4611686018427387904 →
  Calls Tryz.prog 210 #[.slice (some ⟨blk,off,none⟩) d.size cap,.func (.func 151) #[] #[]] w fun e w' => e = .returned (.tuple #[]) ∧ ∃ d' n os,Go.Sort.PermIn 0 d.size d d' ∧ Go.Sort.SortedIn (Go.Proofs.ltOf fun (x y : Ivl) => cmpI x.lo y.lo) 0 d.size d' ∧ w' = Go.Proofs.sortWorldK encV 2 w blk off n d' os:=fun blk off cap d w hc hH hb hs =>
  Go.Proofs.AnyQ.slices_SortFunc Go.Proofs.Tryz.sortIvls 2 (fun w => ts_ok.run_agg (n:=42) rfl w) (fun w => ts_ok.run_size (n:=42) rfl w) encV (fun _ => rfl) (fun a => Bz rfl) (fun x y => cmpI x.lo y.lo) cmpV_swo 151 #[] blk off cap d w (Go.Proofs.enters_of Go.Proofs.Tryz.func151 (by kernel_rfl) rfl) hc hH hb hs
 have hcmp : ∀ x y : Ivl,Res Tryz.prog 151 (#[.agg (encV x).toArray,.agg (encV y).toArray] ++ #[]) h fun u _ => u = .int .i64 (cmpI x.lo y.lo):=fun x y => by
  rw [Array.append_empty]
  exact Li (union1_c h x y)
 have key:=sortFnP (α:=Ivl) (P:=Tryz.prog) (f:=210) (gf:=151) (cb:=#[]) encV 2 (fun _ => rfl) (by decide) (fun x y => cmpI x.lo y.lo) h hC hN hcmp 42 v xs n (by omega) hx
 refine key.mono ?_
 rintro u Es h' hle ⟨rfl,ys,hp,hso,rfl⟩
 refine ⟨rfl,ys,hp,hso.imp fun {a b} hab => ?_,rfl⟩
 rw [ltOfV,decide_eq_false_iff_not] at hab
 omega
theorem sortedV_c (h : Ro) (b1 : Nat) (xs : List Ivl) (hn : xs.length ≤ 1000000) (hs : SeqR Tryz.prog 211 [.pointer (some ⟨b1,0,none⟩)] FRv xs h) :
 Fn Tryz.prog 149 #[.func (.func 211) #[] #[.pointer (some ⟨b1,0,none⟩)],.func (.func 151) #[] #[]] [] h fun u Es _ => ∃ (A' : Option Addr) (c' : Nat) (ys : List Ivl),u = .slice A' xs.length c' ∧ ys.Perm xs ∧ (ys.Pairwise fun x y => x.lo ≤ y.lo) ∧ Es = [OwnS 42 2 (.slice A' xs.length c') xs.length (ys.flatMap encV)]:=by
 refine Bu (args:=[_,_]) ts_ok Go.Proofs.Tryz.func149 rfl rfl fun w0 X0 => ?_
 repeat' (first|apply Ad|apply Aa|apply Ab|(apply Ac;(iterate 3 exact J))|(apply Aj;(iterate 3 exact J);(first|(apply Bt;exact J;exact has209;exact Boa _ _ has211 b1 xs hn (hs.le QL);exact QT;rintro vc Ec hc1 hlc rfl;skip)|(apply Bt;exact J;exact has210;exact sortV_c _ _ xs xs.length hn rfl;exact QT;rintro vs Es9 hs9 hls ⟨rfl,ys,hpm,hso,rfl⟩;skip))))
 all_goals
  refine Im QM ?_
  intro A0 c0 e0
  subst e0
  exact Cf rfl rfl rfl (.cons_cons _ (List.nil_sublist _)) ⟨A0,c0,ys,rfl,hpm,hso,rfl⟩
end Go.Hw
namespace Go.Hw
open Go
attribute [local irreducible] GO GOl GDp Val Fn Res CellsAt ValE Blk OwnS MapA OwnPf Has Yl SepA forceL mergeU
open Go.Proofs (Tryz.prog)
theorem Sc (i : Ivl) : (encV i).length = 2:=rfl
section
variable {C : Ctx} {ds : List Deferred} {l : Sl} {Es : List Asn} {h : Ro} {K : List Item} {G : Value → List Asn → Ro → Prop} {ty : TypeId} {pos : String} {aft : Array Edge} {gd : Option (Nat × Bool)} {dst : Option Tmp} {d : Tmp}
theorem Sy {α : Type} {enc : α → List Value} {t e sz : Nat} {x : Operand} {b k j n c : Nat} {xs : List α} {ad : Addr} {y : α} {v : Value} {T : Ty} (hT : tyOf t C.ts = some T) (hx : evl l x = some (.pointer (some ad))) (had : ad = ⟨b,k * sz + j,none⟩) (hl : ∀ x,(enc x).length = sz)
 (hy : xs[k]? = some y) (hj : (enc y)[j]? = some v) (hv : pvPart 0 T.size T.agg [v] = some v) : OV C l [OwnS e sz (.slice (some ⟨b,0,none⟩) n c) n (xs.flatMap enc)] h ⟨dst,.load t x,ty,pos,aft,gd⟩ v:=by
 subst had
 exact Aw hx (Lv_own hT hv fun i u hi => by
  have : i = 0:=by
   have:=(List.getElem?_eq_some_iff.1 hi).1
   simpa using this
  subst this
  rw [List.getElem?_cons_zero,Option.some.injEq] at hi
  subst hi
  rw [Nat.add_zero]
  exact Jy hl xs k j y v hy hj)
end
theorem set_hi (xs : List Ivl) (k : Nat) (z : Ivl) (w : Int) (hk : xs[k]? = some z) : (xs.set k ⟨z.lo,w⟩).flatMap encV = (xs.flatMap encV).take (k * 2 + 1) ++ [.int .i64 w] ++ (xs.flatMap encV).drop (k * 2 + 1 + 1):=by
 have hlt : k < xs.length:=(List.getElem?_eq_some_iff.1 hk).1
 have h1:=Ob Sc xs k ⟨z.lo,w⟩ hlt
 have h0:=Jy Sc xs k 0 z (.int .i64 z.lo) hk rfl
 rw [h1]
 have e1 : (xs.flatMap encV).take (k * 2 + 1) = (xs.flatMap encV).take (k * 2) ++ [.int .i64 z.lo]:=by
  rw [List.take_add_one]
  rw [Nat.add_zero] at h0
  rw [h0];rfl
 rw [e1]
 show _ ++ [Value.int .i64 z.lo,Value.int .i64 w] ++ _ = _
 simp
theorem addF (b k : Nat) : ((⟨b,0,none⟩ : Addr).add (k * 2)).add 1 = ⟨b,k * 2 + 1,none⟩:=by rw [Cp,Db,Nat.zero_add]
def IvOk (i : Ivl) : Prop:=0 ≤ i.lo ∧ i.lo ≤ i.hi ∧ i.hi ≤ 1048576
theorem Wx (l : List Ivl) (i : Ivl) : mergeU (l ++ [i]) = stepU (mergeU l) i:=by unfold mergeU;rw [List.foldl_append];rfl
theorem mergeU_0 : mergeU [] = []:=by unfold mergeU;rfl
theorem Union_c (h : Ro) (A : Option Addr) (n c : Nat) (l : List Ivl) (hx : SlOf encV 2 h A n l) (hn : n ≤ 1000000) (hok : ∀ i ∈ l,IvOk i) : Res Tryz.prog 68 #[.slice A n c] h (fun u h' => ∃ A' c' ul,u = .tuple #[.slice A' ul.length c',.int .i64 0] ∧ SlOf encV 2 h' A' ul.length ul ∧ ul = unionR l ∧ ul.length ≤ 1000000):=by
 refine Bn (args:=[_]) ts_ok Go.Proofs.Tryz.func68 rfl rfl fun w0 X0 => ?_
 have hlen:=hx.len
 repeat' (first|apply Ad|apply Ag|apply Aa|apply Ab|(apply Ac;(iterate 3 exact J)))
 refine Bh (X:=Nat) (fun k => k ≤ n) (fun k => n - k) (fun k => [(12,.int .i64 k),(11,.int .i64 n),(10,.slice A n c),(0,.slice A n c),(2,.slice none 0 0)]) (fun _ => []) (fun _ => h) 0 (by omega) QS QT rfl ?_
 rintro k hk ih
 by_cases hkn : k < n
 · have a1:=hx.addrD hkn
   have c1:=hx.cellsD v0 hkn
   have hme:=hok _ (Dt v0 (show k < l.length by omega))
   generalize l.getD k v0 = i at *
   have hcv:=cal7_c h i.lo i.hi
   have h3:=ih (k + 1) (by omega) (by omega)
   have hd : DaysOk i.lo i.hi:=hme
   rw [if_pos hd] at hcv
   repeat' (first|apply Ad|apply Ap|apply Ah|apply Ag|apply Aa|apply Ab|(apply Be;(iterate 3 exact J);omega;exact J;exact J)|(apply Ac;(iterate 3 exact J))|(apply Aq;exact J;exact Bd rfl QM rfl;exact J;exact J)|(apply Bc;exact J;exact J;(first|(apply Bb (j:=k);(iterate 5 exact J);exact a1;(with_reducible exact J);omega)|(apply Aw;exact J;exact Bp rfl c1 rfl));exact QA)|(apply Aj;(iterate 3 exact J);(first|(apply Ao;(iterate 3 exact J);exact QR;(iterate 3 exact J);skip)|(apply At;exact J;intro b;skip)|(apply Ai;exact J;exact has148;exact hcv;skip)))|(apply Af;exact J;all_goals (intro hc;try simp only [hcS,reduceCtorEq] at hc;try (exfalso;omega))))
   all_goals first
    | (exfalso;omega)
    | (refine Bm QS QT (h3))
 · clear ih
   have hsq:=fun h' (hl : Le h h') b1 hb1 => valSeq h' A n c l (hx.le hl) hn b1 hb1
   repeat' (first|apply Ad|apply Ag|apply Aa|apply Ab|(apply Bi;exact J)|(apply Ac;(iterate 3 exact J))|(apply Aj;(iterate 3 exact J);(first|(apply Bf;exact J;exact has150;exact valuesV_c _ A n c;rintro v1 h1 hle1 ⟨b1,rfl,hb1⟩;skip)|(apply Bt;exact J;exact has149;exact sortedV_c _ b1 l (by omega) (hsq _ QL b1 hb1);exact QT;rintro vs Ez h2 hle2 ⟨A3,c3,ys,rfl,hpm,hso,rfl⟩;skip)))|(apply Af;exact J;all_goals (intro hc;try simp only [hcS,reduceCtorEq] at hc;try (exfalso;omega))))
   all_goals (try (exfalso;omega))
   have hyl:=hpm.length_eq
   have hyok : ∀ i ∈ ys,IvOk i:=fun i hi => hok i (hpm.mem_iff.1 hi)
   have hus : mergeU ys = unionR l:=A7a (fun i hi => (hok i hi).2.1) hpm hso
   refine Dw (enc:=encV) (e:=42) (sz:=2) (n:=l.length) (xs:=ys) (fun _ => rfl) hyl QK ?_
   intro A5 c5 h5 hle5 e5 hnc5 hs5
   cases e5
   rw [← hus,← hyl]
   rw [← hyl] at hs5
   have hm : ys.length ≤ 1000000:=by omega
   clear hpm hso hok hx hsq hus
   refine Do 42 2 ?_
   refine Bh (X:=Nat × List Ivl × Option Addr × Nat × Ro) (fun x => x.1 ≤ ys.length ∧ Le h5 x.2.2.2.2 ∧ x.2.1 = mergeU (ys.take x.1) ∧ x.2.1.length ≤ x.1 ∧ (∀ i ∈ x.2.1,IvOk i)) (fun x => ys.length - x.1)
    (fun x => [(27,.int .i64 x.1),(26,.int .i64 ys.length),(25,.slice A3 ys.length c3),(2,.slice x.2.2.1 x.2.1.length x.2.2.2.1)])
    (fun x => [OwnS 42 2 (.slice x.2.2.1 x.2.1.length x.2.2.2.1) x.2.1.length (x.2.1.flatMap encV)]) (fun x => x.2.2.2.2) (0,[],none,0,h5) ⟨by dsimp only;omega,Le.refl _,by rw [List.take_zero,mergeU_0],by simp,by simp⟩ QS QT rfl ?_
   rintro ⟨q,out,A4,c4,hh⟩ ⟨hq,hle,ho,hol,hio⟩ ih
   dsimp only at hq hle ho hol hio ih ⊢
   by_cases hqn : q < ys.length
   · have a1:=hs5.addrD hqn
     have c1 : CellsAt hh ((addrD A3).add (q * ty42.size)) (encV (ys.getD q v0)):=(hs5.cellsD v0 hqn).le hle
     have et:=Cq v0 (xs:=ys) rfl hqn
     have hme:=hyok _ (Dt v0 hqn)
     generalize ys.getD q v0 = i at *
     have hsn : mergeU (ys.take (q + 1)) = stepU out i:=by rw [et,Wx,← ho]
     have hme2 : 0 ≤ i.lo ∧ i.lo ≤ i.hi ∧ i.hi ≤ 1048576:=hme
     rcases List.eq_nil_or_concat out with e0|⟨o,z,e0⟩
     · have hl0 : out.length = 0:=by rw [e0];rfl
       rw [e0,Tr] at hsn
       repeat' (first|apply Ad|apply Ap|apply Ah|apply Ag|apply Aa|apply Ab|(apply Be;(iterate 3 exact J);omega;exact J;exact J)|(apply Ac;(iterate 3 exact J))|(apply Aq;exact J;exact Bd rfl QM rfl;exact J;exact J)|(apply Bc;exact J;exact J;(first|(apply Bb (j:=q);(iterate 5 exact J);exact a1;(with_reducible exact J);omega)|(apply Aw;exact J;exact Bp rfl c1 rfl));exact QA)|(apply Aj;(iterate 3 exact J);(first|(apply Ao;(iterate 3 exact J);exact QR;(iterate 3 exact J);skip)|(apply At;exact J;intro b;skip)|(apply Ar (enc:=encV) (n:=1) [i];(iterate 3 exact J);exact List.cons_ne_nil _ _;(iterate 4 exact J);exact fun _ => rfl;exact J;exact J;intro b5 h7 hle7 hs7;skip)|(apply Bo (enc:=encV) (xs:=out);(iterate 7 exact J);exact hs7;exact fun _ => rfl;exact fun x => Bz rfl;intro v1;exact QR;omega;exact J;intro A6 c6;skip)))|(apply Ba (n:=13) [0,1,2,3,4,5,6,7,8,9,10,11,12,13] [(0,0),(1,0),(2,0),(3,0),(4,0),(5,0),(6,0),(7,0),(8,0),(9,0),(10,0),(11,0),(12,0),(13,0)];kernel_rfl)|(apply Lm;exact J;kernel_rfl;exact J;exact J)|(apply Cb;exact J;kernel_rfl;(iterate 3 exact J))|(apply Bj;kernel_rfl;exact J)|(apply Cy;(iterate 5 exact J);all_goals (intro hc;try simp only [hcS,reduceCtorEq] at hc;try (exfalso;omega)))|(apply Af;exact J;all_goals (intro hc;try simp only [hcS,reduceCtorEq] at hc;try (exfalso;omega))))
       all_goals first
        | (exfalso;omega)
        | (have h3:=ih (q + 1,out ++ [i],A6,c6,h7) ⟨by dsimp only;omega,hle.trans hle7,by dsimp only;rw [hsn,e0];rfl,by rw [e0];simp,by rw [e0];simpa using hme⟩ (by dsimp only;omega)
           dsimp only at h3
           rw [List.length_append] at h3
           refine Bm QS QT (h3))
     · rw [List.concat_eq_append] at e0
       have hz:=hio z (by rw [e0];simp)
       have hz2 : 0 ≤ z.lo ∧ z.lo ≤ z.hi ∧ z.hi ≤ 1048576:=hz
       have hon : out.length = o.length + 1:=by rw [e0];simp
       have hoz : out[o.length]? = some z:=by rw [e0];simp
       rw [e0,Pi] at hsn
       refine Kq QM (by omega) ?_
       intro bo cc hncc e9
       cases e9
       by_cases hcd : i.lo ≤ z.hi + 1
       · rw [if_pos hcd] at hsn
         have hset : out.set o.length ⟨z.lo,max z.hi i.hi⟩ = o ++ [⟨z.lo,max z.hi i.hi⟩]:=by rw [e0];simp
         have hsh:=set_hi out o.length z (max z.hi i.hi) hoz
         obtain ⟨w,hw⟩ : ∃ w,w = max z.hi i.hi:=⟨_,rfl⟩
         rw [← hw] at hset hsh hsn
         repeat' (first|apply Ad|apply Ap|apply Ah|apply Ag|apply Aa|apply Ab|(apply Be;(iterate 3 exact J);omega;exact J;exact J)|(apply Ac;(iterate 3 exact J))|(apply Bc;exact J;exact J;(first|(first|(apply Bb (j:=q);(iterate 5 exact J);exact a1;(with_reducible exact J);omega)|(apply Dh (j:=o.length);(iterate 5 exact J);omega;omega))|(first|(apply Aw;exact J;apply Bp;exact J;(with_reducible exact c1);exact J)|(apply Sy (enc:=encV) (b:=bo) (k:=o.length) (j:=1) (sz:=2) (n:=out.length) (c:=c4) (xs:=out) (e:=42);exact J;exact J;exact addF _ _;exact fun _ => rfl;exact hoz;exact J;exact J)));exact QA)|(apply Aj;(iterate 3 exact J);(first|(apply Ao;(iterate 3 exact J);exact QR;(iterate 3 exact J);skip)|(apply At;exact J;intro b;skip)))|(apply Ba (n:=13) [0,1,2,3,4,5,6,7,8,9,10,11,12,13] [(0,0),(1,0),(2,0),(3,0),(4,0),(5,0),(6,0),(7,0),(8,0),(9,0),(10,0),(11,0),(12,0),(13,0)];kernel_rfl)|(apply Ba (n:=14) [0,1,2,3,4,5,6,7,8,9,10,11,12,13,14] [(0,0),(1,0),(2,0),(3,0),(4,0),(5,0),(6,0),(7,0),(8,0),(9,0),(10,0),(11,0),(12,0),(13,0),(14,1)];kernel_rfl)|(apply Hl;exact J;kernel_rfl;(iterate 5 exact J);omega)|(apply Gv;exact J;kernel_rfl;(iterate 5 exact J);omega)|(apply Cb;exact J;kernel_rfl;(iterate 3 exact J))|(apply Bx;exact J;kernel_rfl;(iterate 3 exact J);exact QM;exact J;exact J)|(apply Cg;exact J;kernel_rfl;exact J;exact J;(first|(first|(apply Bb (j:=q);(iterate 5 exact J);exact a1;(with_reducible exact J);omega)|(apply Dh (j:=o.length);(iterate 5 exact J);omega;omega))|(first|(apply Aw;exact J;apply Bp;exact J;(with_reducible exact c1);exact J)|(apply Sy (enc:=encV) (b:=bo) (k:=o.length) (j:=1) (sz:=2) (n:=out.length) (c:=c4) (xs:=out) (e:=42);exact J;exact J;exact addF _ _;exact fun _ => rfl;exact hoz;exact J;exact J)));exact QA)|(apply Bq;exact J;kernel_rfl;(iterate 3 exact J);(first|(apply Jd (b:=bo) (off:=o.length * 2 + 1) (sz:=2) (n:=out.length) (c:=c4) (v:=.int .i64 w) (xs:=out.flatMap encV) (ys:=(out.set o.length ⟨z.lo,w⟩).flatMap encV) (e:=42);exact J;exact congrArg (fun a => some (Value.pointer (some a))) (addF bo o.length);exact congrArg (fun a => some (Value.int .i64 a)) hw.symm;exact QR;exact hsh;(show o.length * 2 + 1 + 1 ≤ (out.flatMap encV).length;rw [Ci Sc,hon];omega);exact J;exact J;refine ⟨Le.refl _,QN,?_⟩)))|(apply Bj;kernel_rfl;exact J)|(apply Cy;(iterate 5 exact J);all_goals (intro hc;try simp only [hcS,reduceCtorEq] at hc;try (exfalso;omega)))|(apply Af;exact J;all_goals (intro hc;try simp only [hcS,reduceCtorEq] at hc;try (exfalso;omega))))
         all_goals first
          | (exfalso;omega)
          | (have h3:=ih (q + 1,out.set o.length ⟨z.lo,w⟩,some ⟨bo,0,none⟩,c4,hh) ⟨by dsimp only;omega,hle,by dsimp only;rw [hsn,hset],by dsimp only;rw [List.length_set];omega,fun y hy => by
              dsimp only at hy
              rw [hset,List.mem_append,List.mem_singleton] at hy
              rcases hy with r|r
              · exact hio y (by rw [e0];exact List.mem_append.2 (.inl r))
              · rw [r];exact ⟨hz2.1,by show z.lo ≤ w;omega,by show w ≤ 1048576;omega⟩⟩ (by dsimp only;omega)
             dsimp only at h3
             rw [List.length_set] at h3
             refine Bm QS QT (h3))
       · rw [if_neg hcd] at hsn
         repeat' (first|apply Ad|apply Ap|apply Ah|apply Ag|apply Aa|apply Ab|(apply Be;(iterate 3 exact J);omega;exact J;exact J)|(apply Ac;(iterate 3 exact J))|(apply Aq;exact J;exact Bd rfl QM rfl;exact J;exact J)|(apply Bc;exact J;exact J;(first|(first|(apply Bb (j:=q);(iterate 5 exact J);exact a1;(with_reducible exact J);omega)|(apply Dh (j:=o.length);(iterate 5 exact J);omega;omega))|(first|(apply Aw;exact J;apply Bp;exact J;(with_reducible exact c1);exact J)|(apply Sy (enc:=encV) (b:=bo) (k:=o.length) (j:=1) (sz:=2) (n:=out.length) (c:=c4) (xs:=out) (e:=42);exact J;exact J;exact addF _ _;exact fun _ => rfl;exact hoz;exact J;exact J)));exact QA)|(apply Aj;(iterate 3 exact J);(first|(apply Ao;(iterate 3 exact J);exact QR;(iterate 3 exact J);skip)|(apply At;exact J;intro b;skip)|(apply Ar (enc:=encV) (n:=1) [i];(iterate 3 exact J);exact List.cons_ne_nil _ _;(iterate 4 exact J);exact fun _ => rfl;exact J;exact J;intro b5 h7 hle7 hs7;skip)|(apply Bo (enc:=encV) (xs:=out);(iterate 7 exact J);exact hs7;exact fun _ => rfl;exact fun x => Bz rfl;intro v1;exact QR;omega;exact J;intro A6 c6;skip)))|(apply Ba (n:=13) [0,1,2,3,4,5,6,7,8,9,10,11,12,13] [(0,0),(1,0),(2,0),(3,0),(4,0),(5,0),(6,0),(7,0),(8,0),(9,0),(10,0),(11,0),(12,0),(13,0)];kernel_rfl)|(apply Hl;exact J;kernel_rfl;(iterate 5 exact J);omega)|(apply Gv;exact J;kernel_rfl;(iterate 5 exact J);omega)|(apply Cb;exact J;kernel_rfl;(iterate 3 exact J))|(apply Bx;exact J;kernel_rfl;(iterate 3 exact J);exact QM;exact J;exact J)|(apply Cg;exact J;kernel_rfl;exact J;exact J;(first|(first|(apply Bb (j:=q);(iterate 5 exact J);exact a1;(with_reducible exact J);omega)|(apply Dh (j:=o.length);(iterate 5 exact J);omega;omega))|(first|(apply Aw;exact J;apply Bp;exact J;(with_reducible exact c1);exact J)|(apply Sy (enc:=encV) (b:=bo) (k:=o.length) (j:=1) (sz:=2) (n:=out.length) (c:=c4) (xs:=out) (e:=42);exact J;exact J;exact addF _ _;exact fun _ => rfl;exact hoz;exact J;exact J)));exact QA)|(apply Bj;kernel_rfl;exact J)|(apply Cy;(iterate 5 exact J);all_goals (intro hc;try simp only [hcS,reduceCtorEq] at hc;try (exfalso;omega)))|(apply Af;exact J;all_goals (intro hc;try simp only [hcS,reduceCtorEq] at hc;try (exfalso;omega))))
         all_goals first
          | (exfalso;omega)
          | (have h3:=ih (q + 1,out ++ [i],A6,c6,h7) ⟨by dsimp only;omega,hle.trans hle7,by dsimp only;rw [hsn,e0],by dsimp only;rw [List.length_append];simp only [List.length_cons,List.length_nil];omega,fun y hy => by
              dsimp only at hy
              rw [List.mem_append,List.mem_singleton] at hy
              rcases hy with r|r
              · exact hio y r
              · rw [r];exact hme⟩ (by dsimp only;omega)
             dsimp only at h3
             rw [List.length_append] at h3
             refine Bm QS QT (h3))
   · rw [List.take_of_length_le (by omega)] at ho
     clear ih
     refine Dw (enc:=encV) (e:=42) (sz:=2) (n:=out.length) (xs:=out) (fun _ => rfl) rfl QK ?_
     intro A6 c6 h6 hle6 e6 hnc6 hs6
     cases e6
     repeat' (first|apply Ad|apply Aa|apply Ab|(apply Bi;exact J)|(apply Ac;(iterate 3 exact J))|(apply Af;exact J;all_goals (intro hc;try simp only [hcS,reduceCtorEq] at hc;try (exfalso;omega))))
     all_goals first
      | (exfalso;omega)
      | (exact Fh rfl rfl rfl rfl ⟨A4,c4,out,rfl,hs6,ho,by omega⟩)
theorem Vb {C : List Fct} (hok : ∀ f ∈ C,FctOk f) : ∀ r ∈ (forceL C).map (·.ru),r.kind = 5 → IvOk ⟨r.lo,r.hi⟩:=fun r hr hk => by
 obtain ⟨f,hf,rfl⟩:=List.mem_map.1 hr
 obtain ⟨_,_,_,h4⟩:=Zw hok hf
 have:=h4.2.2.2.2.1
 unfold RulGood at this
 rw [if_neg (by omega),if_neg (by omega),if_neg (by omega),if_neg (by omega),if_pos hk] at this
 exact this.2
def banQ (k : Int) (l : List FRul) : List Ivl:=(l.filter fun r => decide (r.kind = 5 ∧ r.club = k)).map fun r => ⟨r.lo,r.hi⟩
theorem Vr (k : Int) (l : List FRul) (r : FRul) : banQ k (l ++ [r]) = if r.kind = 5 ∧ r.club = k then banQ k l ++ [⟨r.lo,r.hi⟩] else banQ k l:=by
 unfold banQ
 rw [List.filter_append,List.map_append]
 by_cases h : r.kind = 5 ∧ r.club = k <;> simp [h]
theorem Aoa (k : Int) (l : List Fct) : banQ k (l.map (·.ru)) = banF k l:=by
 unfold banQ banF
 rw [List.filter_map,List.map_map];rfl
theorem Apa (k : Int) (l : List FRul) : (banQ k l).length ≤ l.length:=by unfold banQ;rw [List.length_map];exact List.length_filter_le _ _
theorem banQ_ok {k : Int} {l : List FRul} (h : ∀ r ∈ l,r.kind = 5 → IvOk ⟨r.lo,r.hi⟩) : ∀ i ∈ banQ k l,IvOk i:=fun i hi => by
 unfold banQ at hi
 obtain ⟨r,hr,rfl⟩:=List.mem_map.1 hi
 obtain ⟨h1,h2⟩:=List.mem_filter.1 hr
 exact h r h1 (of_decide_eq_true h2).1
theorem Bans_c (h : Ro) (hG : PowG h) (A : Option Addr) (n c : Nat) (l : List (Fsh × Fct)) (hx : FactsAt h A n l) (cl : Int) : Res Tryz.prog 28 #[.slice A n c,.int .i64 cl] h (fun u h' => ∃ A' c' ul,u = .slice A' ul.length c' ∧ SlOf encV 2 h' A' ul.length ul ∧ ul = bansL (canonL (fcs l)) cl ∧ ul.length ≤ 1000000):=by
 refine Bn (args:=[_,_]) ts_ok Go.Proofs.Tryz.func28 rfl rfl fun w0 X0 => ?_
 have hok : ∀ f ∈ canonL (fcs l),FctOk f:=fun f hf => (((Ck (fcs l) (fun f hf => by
  obtain ⟨p,hp,rfl⟩:=List.mem_map.1 hf
  exact (hx.fat p hp).1.void)).2 f).1 hf).2
 have hbn:=Vb hok
 have hpe : bansL (canonL (fcs l)) cl = unionR (banQ cl ((forceL (canonL (fcs l))).map (·.ru))):=by unfold bansL;rw [Aoa]
 rw [hpe]
 have hfi:=fun h' (hl : Le h h') => Kn h' (hG.le hl) A n c l (hx.le hl)
 obtain ⟨L,hL⟩ : ∃ L,L = (forceL (canonL (fcs l))).map (·.ru):=⟨_,rfl⟩
 rw [← hL] at hfi hbn ⊢
 clear hok hpe
 repeat' (first|apply Ad|apply Ag|apply Aa|apply Ab|(apply Ac;(iterate 3 exact J))|(apply Aj;(iterate 3 exact J);(first|(apply Bf;exact J;exact Bfa;exact hfi _ QL;rintro w1 h1 hle1 ⟨A3,c3,rl,rfl,hsl,rfl,hn3⟩;skip))))
 refine Do 42 2 ?_
 refine Bh (X:=Nat × List Ivl × Option Addr × Nat × Ro) (fun x => x.1 ≤ rl.length ∧ Le h1 x.2.2.2.2 ∧ x.2.1 = banQ cl (rl.take x.1)) (fun x => rl.length - x.1)
  (fun x => [(10,.int .i64 x.1),(9,.int .i64 rl.length),(8,.slice A3 rl.length c3),(4,.slice x.2.2.1 x.2.1.length x.2.2.2.1),(1,.int .i64 cl)])
  (fun x => [OwnS 42 2 (.slice x.2.2.1 x.2.1.length x.2.2.2.1) x.2.1.length (x.2.1.flatMap encV)]) (fun x => x.2.2.2.2) (0,[],none,0,h1) ⟨by dsimp only;omega,Le.refl _,rfl⟩ QS QT rfl ?_
 rintro ⟨k,out,A4,c4,hh⟩ ⟨hk,hle,ho⟩ ih
 dsimp only at hk hle ho ih ⊢
 have hol : out.length ≤ k:=by
  have:=Apa cl (rl.take k)
  rw [← ho,List.length_take] at this
  omega
 by_cases hkn : k < rl.length
 · have a1:=hsl.addrD hkn
   have c1:=(hsl.cellsD rul0 hkn).le hle
   have et:=Cq rul0 (xs:=rl) rfl hkn
   generalize rl.getD k rul0 = r at *
   have hsn:=Vr cl (rl.take k) r
   rw [← et,← ho] at hsn
   by_cases hp : r.kind = 5 ∧ r.club = cl
   · rw [if_pos hp] at hsn
     obtain ⟨p1,p2⟩:=hp
     repeat' (first|apply Ad|apply Ap|apply Ah|apply Ag|apply Aa|apply Ab|(apply Be;(iterate 3 exact J);omega;exact J;exact J)|(apply Ac;(iterate 3 exact J))|(apply Aq;exact J;exact Bd rfl QM rfl;exact J;exact J)|(apply Bc;exact J;exact J;(first|(apply Bb (j:=k);(iterate 5 exact J);exact a1;(with_reducible exact J);omega)|(apply Aw;exact J;exact Bp rfl c1 rfl));exact QA)|(apply Aj;(iterate 3 exact J);(first|(apply Ao;(iterate 3 exact J);exact QR;(iterate 3 exact J);skip)|(apply At;exact J;intro b;skip)|(apply Ar (enc:=encV) (n:=1) [(⟨r.lo,r.hi⟩ : Ivl)];(iterate 3 exact J);exact List.cons_ne_nil _ _;(iterate 4 exact J);exact fun _ => rfl;exact J;exact J;intro b5 h5 hle5 hs5;skip)|(apply Bo (enc:=encV) (xs:=out);(iterate 7 exact J);exact hs5;exact fun _ => rfl;exact fun x => Bz rfl;intro v1;exact QR;omega;exact J;intro A6 c6;skip)))|(apply Af;exact J;all_goals (intro hc;try simp only [hcS,reduceCtorEq] at hc;try (exfalso;omega)))|(apply Bg;exact J;exact J;all_goals (intro hc;try simp only [hcS,reduceCtorEq] at hc;try (exfalso;omega))))
     all_goals first
      | (exfalso;omega)
      | contradiction
      | (have h3:=ih (k + 1,out ++ [⟨r.lo,r.hi⟩],A6,c6,h5) ⟨by dsimp only;omega,hle.trans hle5,by dsimp only;rw [hsn]⟩ (by dsimp only;omega)
         dsimp only at h3
         rw [List.length_append] at h3
         refine Bm QS QT (h3))
   · rw [if_neg hp] at hsn
     have h3:=ih (k + 1,out,A4,c4,hh) ⟨by dsimp only;omega,hle,by dsimp only;rw [hsn]⟩ (by dsimp only;omega)
     dsimp only at h3
     repeat' (first|apply Ad|apply Ap|apply Ah|apply Ag|apply Aa|apply Ab|(apply Az;exact J;exact J)|(apply Be;(iterate 3 exact J);omega;exact J;exact J)|(apply Ac;(iterate 3 exact J))|(apply Aq;exact J;exact Bd rfl QM rfl;exact J;exact J)|(apply Bc;exact J;exact J;(first|(apply Bb (j:=k);(iterate 5 exact J);exact a1;(with_reducible exact J);omega)|(apply Aw;exact J;exact Bp rfl c1 rfl));exact QA)|(apply Aj;(iterate 3 exact J);(first|(apply Ao;(iterate 3 exact J);exact QR;(iterate 3 exact J);skip)|(apply At;exact J;intro b;skip)))|(apply Af;exact J;all_goals (intro hc;try simp only [hcS,reduceCtorEq] at hc;try (exfalso;omega)))|(apply Bg;exact J;exact J;all_goals (intro hc;try simp only [hcS,reduceCtorEq] at hc;try (exfalso;omega))))
     all_goals first
      | (exfalso;omega)
      | (exfalso;exact hp ⟨by assumption,by assumption⟩)
      | (refine Bm QS QT (h3))
 · rw [List.take_of_length_le (by omega)] at ho
   clear ih
   have hio : ∀ i ∈ out,IvOk i:=by rw [ho];exact banQ_ok hbn
   rw [← ho]
   repeat' (first|apply Ad|apply Aa|apply Ab|(apply Bi;exact J)|(apply Ac;(iterate 3 exact J))|(apply Aj;(iterate 3 exact J);(first|(refine Ki (enc:=encV) (e:=42) (sz:=2) (xs:=out) (n:=out.length) (fun _ => rfl) rfl QK ?_;intro A6 c6 h6 hle6 e6 hnc6 hs6;cases e6;apply Bf;exact J;exact has68;exact Union_c h6 _ _ _ out hs6 (by omega) hio;rintro vm h7 hle7 ⟨A7,c7,ul,rfl,hs7,hul,hun⟩;skip)))|(apply Af;exact J;all_goals (intro hc;try simp only [hcS,reduceCtorEq] at hc;try (exfalso;omega))))
   all_goals first
    | (exfalso;omega)
    | (exact Ca rfl rfl rfl ⟨A7,c7,ul,rfl,hs7,hul,hun⟩)
end Go.Hw

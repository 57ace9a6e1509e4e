import Derived.Test.YtgbamiehiokacaaGreatDoorRB
import Derived.Test.YtgbamiehiokacaaGreatDoorRC
import Derived.Test.YtgbamiehiokacaaGreatDoorGC
import Derived.Test.YtgbamiehiokacaaGreatDoorEE
set_option linter.unusedVariables false
set_option linter.unusedSimpArgs false
set_option maxRecDepth 100000
set_option maxHeartbeats 8000000
namespace Go.Hw
open Go
attribute [local irreducible] GO GOl GDp Val Fn Res CellsAt ValE Blk OwnS MapA OwnPf Has
open Go.Proofs (Tryz.prog)
theorem Rl : ∀ (a b : List UInt8),Op.bytesLess a b = decide (cmpB a b < 0)
 | [],[] => rfl
 | [],_ :: _ => rfl
 | _ :: _,[] => rfl
 | a :: x,b :: y => by
   unfold Op.bytesLess cmpB
   rw [Rl x y]
   by_cases h1 : a.toNat < b.toNat
   · rw [if_pos h1]
     have : a < b:=UInt8.lt_iff_toNat_lt.2 h1
     simp [this]
   · rw [if_neg h1]
     have h2 : ¬ a < b:=fun h => h1 (UInt8.lt_iff_toNat_lt.1 h)
     by_cases h3 : b.toNat < a.toNat
     · rw [if_pos h3]
       have : a ≠ b:=fun h => by subst h;omega
       simp [h2,this]
     · rw [if_neg h3]
       have : a = b:=UInt8.toNat_inj.1 (by omega)
       simp [this]
theorem cmpR_c (h : Ro) (a b : Int) : Val Tryz.prog 147 #[.int .i64 a,.int .i64 b] h (.int .i64 (cmpI a b)):=by
 refine Au (args:=[_,_]) ts_ok Go.Proofs.Tryz.func147 rfl rfl fun w0 X0 => ?_
 repeat' (first|apply Ad|apply Ap|apply Aa|apply Ab|(apply Ac;(iterate 3 exact J))|(apply Af;exact J;all_goals (intro hc;try simp only [hcS,reduceCtorEq] at hc;try (exfalso;omega)))|(apply Av;(iterate 3 exact J)))
 all_goals first
  | (unfold cmpI;rw [if_pos (by omega)];done)
  | (unfold cmpI;rw [if_neg (by omega),if_pos (by omega)];done)
  | (unfold cmpI;rw [if_neg (by omega),if_neg (by omega)];done)
open Classical in
theorem La (h : Ro) (s : Fsh) (f : Fct) (hf : FAt h s f) (hs : FSm f) (hg : FctOk f) : Res Tryz.prog 117 #[factV s f] h (fun u h' => ∃ A c,u = .tuple #[.slice A (encF f).length c,.int .i64 0] ∧ SlOf encB 1 h' A (encF f).length (encF f)):=by
 refine Bn (args:=[_]) ts_ok Go.Proofs.Tryz.func117 rfl rfl fun w0 X0 => ?_
 have hvl:=hf.void
 have hle0:=Sd f hg hvl
 have hch:=fun h' (hl : Le h h') => by
  have:=Sj h' s f (hf.le hl) hs
  rw [if_pos hg] at this;exact this
 have hk : 1 ≤ f.kind ∧ f.kind ≤ 8:=by
  refine Classical.byContradiction fun hk => (Gd f hk).2 hg.2.2.1
 have i1 : I64 f.day:=Mc hg.1 (by omega)
 have i2 : I64 f.kind:=by unfold I64;omega
 have i3 : I64 f.known:=Mc hg.2.1 (by omega)
 repeat' (first|apply Ad|apply Ap|apply Aa|apply Ab|(apply Ac;(iterate 3 exact J))|(apply Aq;exact J;exact Bd rfl QM rfl;exact J;exact J)|(apply Aj;(iterate 3 exact J);(first|(apply Ay;exact J;intro b;skip)|(apply Ai;exact J;exact has45;exact hch _ QL;skip)|(apply Bf;exact J;exact has194;exact encodeR_c _ 6 (by omega) ⟨4,0,[],⟨some ⟨bz,0,none⟩,4,4⟩,⟨some ⟨bk,0,none⟩,4,4⟩⟩ (encF f) (.inr (.inr (.inr ⟨⟨some ⟨bz,0,none⟩,4,4⟩,⟨some ⟨bk,0,none⟩,4,4⟩,[vaInt f.day,vaInt f.kind,vaInt f.known,v],[bInt f.day,bInt f.kind,bInt f.known,bSeq (elemsB f)],keys7,rfl,hs1.le QL,Zip7.cons (Br i1) (Zip7.cons (Br i2) (Zip7.cons (Br i3) (Zip7.cons (hv.le QL) Zip7.nil))),hks.le QL,rfl,Zh,four_le,Vk f⟩))) (by omega);rintro v4 h4 hle4 ⟨A4,c4,rfl,hr4⟩;skip)))|(apply Ba (n:=4) [0,1,2,3,4,5,6,7,8,9,10,11,12,13,14,15] [(1,0),(2,0),(4,0),(5,0),(7,0),(8,0),(10,0),(0,3),(38,3),(164,14),(3,2),(29,14),(6,2),(21,14),(9,2),(14,14),(11,2),(8,14),(12,2),(3,14),(13,0),(14,1),(15,1),(12,1),(13,0),(15,1),(11,1),(12,1),(13,0),(15,1),(9,1),(11,1),(12,1),(13,0),(15,1),(6,1),(9,1),(11,1),(12,1),(13,0),(15,1),(3,1),(6,1),(9,1),(11,1),(12,1),(13,0),(15,1),(0,3),(29,6),(103,14),(6,2),(21,14),(9,2),(14,14),(11,2),(8,14),(12,2),(3,14),(13,0),(14,1),(15,1),(12,1),(13,0),(15,1),(11,1),(12,1),(13,0),(15,1),(9,1),(11,1),(12,1),(13,0),(15,1),(6,1),(9,1),(11,1),(12,1),(13,0),(15,1),(0,3),(21,9),(58,14),(9,2),(14,14),(11,2),(8,14),(12,2),(3,14),(13,0),(14,1),(15,1),(12,1),(13,0),(15,1),(11,1),(12,1),(13,0),(15,1),(9,1),(11,1),(12,1),(13,0),(15,1),(0,3),(14,11),(27,14),(11,2),(8,14),(12,2),(3,14),(13,0),(14,1),(15,1),(12,1),(13,0),(15,1),(11,1),(12,1),(13,0),(15,1),(0,3),(8,12),(8,14),(12,2),(3,14),(13,0),(14,1),(15,1),(12,1),(13,0),(15,1),(0,2),(3,14),(13,0),(14,1),(15,1),(0,1),(13,0),(15,1),(0,2),(3,12),(12,1),(13,0),(15,1),(0,1),(13,0),(15,1),(0,2),(4,11),(11,1),(12,1),(13,0),(15,1),(0,2),(3,12),(12,1),(13,0),(15,1),(0,1),(13,0),(15,1),(0,2),(5,9),(9,1),(11,1),(12,1),(13,0),(15,1),(0,2),(4,11),(11,1),(12,1),(13,0),(15,1),(0,2),(3,12),(12,1),(13,0),(15,1),(0,1),(13,0),(15,1),(0,2),(6,6),(6,1),(9,1),(11,1),(12,1),(13,0),(15,1),(0,2),(5,9),(9,1),(11,1),(12,1),(13,0),(15,1),(0,2),(4,11),(11,1),(12,1),(13,0),(15,1),(0,2),(3,12),(12,1),(13,0),(15,1),(0,1),(13,0),(15,1),(0,2),(7,3),(3,1),(6,1),(9,1),(11,1),(12,1),(13,0),(15,1),(0,2),(6,6),(6,1),(9,1),(11,1),(12,1),(13,0),(15,1),(0,2),(5,9),(9,1),(11,1),(12,1),(13,0),(15,1),(0,2),(4,11),(11,1),(12,1),(13,0),(15,1),(0,2),(3,12),(12,1),(13,0),(15,1),(0,1),(13,0),(15,1)];kernel_rfl)|(apply Cb;exact J;kernel_rfl;(iterate 3 exact J))|(apply Bx;exact J;kernel_rfl;(iterate 3 exact J);exact QM;exact J;exact J)|(apply Bq;exact J;kernel_rfl;(iterate 3 exact J);(first|(apply Ao;(iterate 3 exact J);exact QR;(iterate 3 exact J);refine ⟨Le.refl _,QN,?_⟩)|(apply At;exact J;intro b;refine ⟨Le.refl _,QN,?_⟩)|(apply Ar (enc:=encS7) (n:=4) (e:=9) keys7;(iterate 3 exact J);exact List.cons_ne_nil _ _;(iterate 4 exact J);exact (fun _ => rfl);exact J;exact J;intro bk hk7 hlek hks;refine ⟨hlek,QN,?_⟩)|(apply Bf;exact J;exact has193;exact what_c _ s f (hf.le QL) hs hg;rintro wv hw hlew ⟨v,rfl,hv⟩;refine ⟨hlew,QN,?_⟩)|(apply Ar (enc:=vaC) (n:=4) (e:=192) [vaInt f.day,vaInt f.kind,vaInt f.known,v];(iterate 3 exact J);exact List.cons_ne_nil _ _;(iterate 4 exact J);exact Cc;exact J;exact J;intro bz hz1 hlez hs1;refine ⟨hlez,QN,?_⟩)|(apply Ai;exact J;exact Pt;exact Kx _ _;refine ⟨Le.refl _,QN,?_⟩)))|(apply Ir;kernel_rfl;exact J;exact J)|(apply Df;(iterate 4 exact J);(first|(apply At;exact J;intro b;refine ⟨Le.refl _,QN,?_⟩)|(apply Ar (enc:=encS7) (n:=4) (e:=9) keys7;(iterate 3 exact J);exact List.cons_ne_nil _ _;(iterate 4 exact J);exact (fun _ => rfl);exact J;exact J;intro bk hk7 hlek hks;refine ⟨hlek,QN,?_⟩)|(apply Bf;exact J;exact has193;exact what_c _ s f (hf.le QL) hs hg;rintro wv hw hlew ⟨v,rfl,hv⟩;refine ⟨hlew,QN,?_⟩)|(apply Ar (enc:=vaC) (n:=4) (e:=192) [vaInt f.day,vaInt f.kind,vaInt f.known,v];(iterate 3 exact J);exact List.cons_ne_nil _ _;(iterate 4 exact J);exact Cc;exact J;exact J;intro bz hz1 hlez hs1;refine ⟨hlez,QN,?_⟩)|(apply Ai;exact J;exact Pt;exact Kx _ _;refine ⟨Le.refl _,QN,?_⟩)))|(apply Bj;kernel_rfl;exact J)|(apply Af;exact J;all_goals (intro hc;try simp only [hcS,reduceCtorEq] at hc;try (exfalso;omega)))|(apply GP_three;kernel_rfl;(iterate 4 exact J)))
 all_goals first
  | (exfalso;omega)
  | (exact Fh rfl rfl rfl rfl ⟨_,_,rfl,hr4⟩)
theorem Xo (h : Ro) (s t : Fsh) (f g : Fct) (hf : FAt h s f) (hs : FSm f) (hg : FAt h t g) (ht : FSm g) (of : FctOk f) (og : FctOk g) : Res Tryz.prog 66 #[factV s f,factV t g] h (fun u h' => u = .int .i64 (cmpF f g)):=by
 refine Bn (args:=[_,_]) ts_ok Go.Proofs.Tryz.func66 rfl rfl fun w0 X0 => ?_
 have hl1:=Rl (encF f) (encF g)
 have hl2:=Rl (encF g) (encF f)
 have hsw:=Oh (encF f) (encF g)
 have hrg:=Qg (encF f) (encF g)
 have hbe : (encF f == encF g) = decide (cmpB (encF f) (encF g) = 0):=by rw [Bool.eq_iff_iff,beq_iff_eq,decide_eq_true_eq,Si]
 repeat' (first|apply Ad|apply Ap|apply Aa|apply Ab|(apply Ac;(iterate 3 exact J))|(apply Aq;exact J;exact Bd rfl QM rfl;exact J;exact J)|(apply Bc;exact J;exact J;(first|(apply Mo (s:=encF f) (A:=A4);(iterate 7 exact J);exact hr4.le QL)|(apply Mo (s:=encF g) (A:=A5);(iterate 7 exact J);exact hr5.le QL));exact QA)|(apply Aj;(iterate 3 exact J);(first|(apply Ay;exact J;intro b;skip)|(apply Ai;exact J;exact has147;exact cmpR_c _ _ _;skip)|(apply Bf;exact J;exact has117;exact La _ s f (hf.le QL) hs of;rintro v4 h4 hle4 ⟨A4,c4,rfl,hr4⟩;skip)|(apply Bf;exact J;exact has117;exact La _ t g (hg.le QL) ht og;rintro v5 h5 hle5 ⟨A5,c5,rfl,hr5⟩;skip)))|(apply Af;exact J;all_goals (intro hc;try simp only [hcS,reduceCtorEq] at hc;try (exfalso;omega))))
 all_goals (refine Ca rfl rfl rfl ?_)
 all_goals (simp only [Cz,hl1,hl2,hbe,Bool.or_eq_true,Bool.or_eq_false_iff,decide_eq_true_eq,decide_eq_false_iff_not,Bool.not_eq_true',Bool.not_eq_true] at *)
 all_goals (refine congrArg (Value.int .i64) ?_)
 all_goals (clear hf hs hg ht of og;unfold cmpF;(repeat' split) <;> omega)
end Go.Hw
namespace Go.Hw
open Go
attribute [local irreducible] GO GOl GDp Val Fn Res CellsAt ValE Blk OwnS MapA OwnPf Has Yl idF
open Go.Proofs (Tryz.prog)
theorem Xb {x : Fct} : ∀ {L : List Fct} {k : Nat},k ≤ L.length → (∀ i,i < k → cmpF (L.getD i fct0) x < 0) → (k < L.length → ¬ cmpF (L.getD k fct0) x < 0) → insF x L = if k < L.length ∧ L.getD k fct0 = x then L else L.take k ++ x :: L.drop k
 | [],k,hk,_,_ => by
   have : k = 0:=by simpa using hk
   subst this;simp [insF]
 | y :: r,0,_,_,h2 => by
   have h2:=h2 (by simp)
   simp only [List.getD_cons_zero] at h2
   unfold insF
   rw [if_neg h2]
   simp
 | y :: r,k + 1,hk,h1,h2 => by
   have h0:=h1 0 (by omega)
   simp only [List.getD_cons_zero] at h0
   have ih:=Xb (x:=x) (L:=r) (k:=k) (by simpa using hk) (fun i hi => by have:=h1 (i + 1) (by omega);simpa using this) (fun hlt => by have:=h2 (by simpa using hlt);simpa using this)
   unfold insF
   rw [if_pos h0,ih]
   simp only [List.length_cons,Nat.add_lt_add_iff_right,List.getD_cons_succ,List.take_succ_cons,List.drop_succ_cons]
   split
   · rfl
   · rfl
theorem fcs_getD (l : List (Fsh × Fct)) {k : Nat} (hk : k < l.length) : (fcs l).getD k fct0 = (l.getD k p0).2:=by
 unfold fcs
 simp [List.getD,List.getElem?_eq_getElem hk]
theorem Ih (h : Ro) (p q : Fsh × Fct) (hp : FGd h p) (hq : FGd h q) : Res Tryz.prog 66 #[factV p.1 p.2,factV q.1 q.2] h (fun u _ => u = .int .i64 (cmpF p.2 q.2)) :=
 Xo h p.1 q.1 p.2 q.2 hp.1 hp.2.1 hq.1 hq.2.1 hp.2.2 hq.2.2
end Go.Hw

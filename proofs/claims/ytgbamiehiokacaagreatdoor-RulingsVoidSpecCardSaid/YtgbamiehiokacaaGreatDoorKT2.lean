import Derived.Test.YtgbamiehiokacaaGreatDoorKT1
import Derived.Test.YtgbamiehiokacaaGreatDoorDA
set_option linter.unusedVariables false
set_option linter.unusedSimpArgs false
set_option maxRecDepth 100000
set_option maxHeartbeats 4000000
namespace Go.Hw
open Go
def cR (l : List B64) : Nat → List B64
 | 0 => List.replicate 5 0
 | m + 1 => (cR l m).set (m / 5) ((cR l m).getD (m / 5) 0 ^^^ l.getD (5 * (m % 5) + m / 5) 0)
def rV (l c : List B64) (n : Nat) : B64:=rotl (l.getD n 0 ^^^ (c.getD ((n % 5 + 4) % 5) 0 ^^^ rotl (c.getD ((n % 5 + 1) % 5) 0) 1)) (turnL.getD n 0)
def bR (l c : List B64) : Nat → List B64
 | 0 => List.replicate 25 0
 | m + 1 => (bR l c m).set (5 * ((2 * (m / 5) + 3 * (m % 5)) % 5) + m % 5) (rV l c (5 * (m % 5) + m / 5))
def oV (b : List B64) (n : Nat) : B64:=b.getD n 0 ^^^ (~~~ (b.getD (n - n % 5 + (n % 5 + 1) % 5) 0) &&& b.getD (n - n % 5 + (n % 5 + 2) % 5) 0)
def oR (b : List B64) : Nat → List B64
 | 0 => List.replicate 25 0
 | m + 1 => (oR b m).set (5 * (m % 5) + m / 5) (oV b (5 * (m % 5) + m / 5))
@[simp] theorem cR_len (l : List B64) : ∀ n,(cR l n).length = 5
 | 0 => rfl
 | n + 1 => by rw [cR,List.length_set,cR_len l n]
@[simp] theorem bR_len (l c : List B64) : ∀ n,(bR l c n).length = 25
 | 0 => rfl
 | n + 1 => by rw [bR,List.length_set,bR_len l c n]
@[simp] theorem oR_len (b : List B64) : ∀ n,(oR b n).length = 25
 | 0 => rfl
 | n + 1 => by rw [oR,List.length_set,oR_len b n]
theorem cR_col (l : List B64) : cR l 25 = colS l 25:=by kernel_rfl
theorem Jp {f : Nat → B64} {g : Nat → Nat} {s : Nat → List B64} (hs : ∀ m,s (m + 1) = (s m).set (g m) (f m)) (hl : ∀ m,(s m).length = 25) (hg : ∀ m,m < 25 → ∀ n,n < 25 → g m = g n → m = n) (hb : ∀ m,m < 25 → g m < 25) : ∀ (n m : Nat),m < n → n ≤ 25 → (s n)[g m]? = some (f m)
 | 0,m,hm,_ => by omega
 | n + 1,m,hm,hn => by
   rw [hs]
   by_cases e : m = n
   · subst e
     exact List.getElem?_set_self (by rw [hl];exact hb m (by omega))
   · rw [List.getElem?_set_ne (fun h => e (hg _ (by omega) _ (by omega) h.symm))]
     exact Jp hs hl hg hb n m (by omega) (by omega)
theorem Pp {a b : List B64} (ha : a.length = 25) (hb : b.length = 25) (h : ∀ i,i < 25 → a[i]? = b[i]?) : a = b:=by
 apply List.ext_getElem?
 intro i
 by_cases hi : i < 25
 · exact h i hi
 · rw [List.getElem?_eq_none (by omega),List.getElem?_eq_none (by omega)]
theorem bR_rho (l c : List B64) : bR l c 25 = rhoS l c 25:=by
 have h1:=Jp (s:=bR l c) (g:=fun m => 5 * ((2 * (m / 5) + 3 * (m % 5)) % 5) + m % 5) (f:=fun m => rV l c (5 * (m % 5) + m / 5)) (fun m => rfl) (bR_len l c) (by decide +kernel) (by decide +kernel) 25
 have h2:=Jp (s:=rhoS l c) (g:=fun m => placeL.getD m 0) (f:=fun m => rV l c m) (fun m => rfl) (Mf l c) (by decide +kernel) Ud 25
 refine Pp (bR_len _ _ _) (Mf _ _ _) fun i hi => ?_
 have key : ∀ i,i < 25 → ∃ m,m < 25 ∧ 5 * ((2 * (m / 5) + 3 * (m % 5)) % 5) + m % 5 = i ∧ 5 * (m % 5) + m / 5 < 25 ∧ placeL.getD (5 * (m % 5) + m / 5) 0 = i:=by decide +kernel
 obtain ⟨m,hm,e1,e2,e3⟩:=key i hi
 have a:=h1 m hm (Nat.le_refl _)
 have b:=h2 _ e2 (Nat.le_refl _)
 try dsimp only at a b
 rw [e1] at a
 rw [e3] at b
 rw [a,b]
theorem oR_chi (b l : List B64) (hl : l.length = 25) : oR b 25 = chiS b l 25:=by
 have h1:=Jp (s:=oR b) (g:=fun m => 5 * (m % 5) + m / 5) (f:=fun m => oV b (5 * (m % 5) + m / 5)) (fun m => rfl) (oR_len b) (by decide +kernel) (by decide +kernel) 25
 have h2:=Jp (s:=chiS b l) (g:=fun m => m) (f:=fun m => oV b m) (fun m => rfl) (fun m => by rw [Ml,hl]) (fun _ _ _ _ h => h) (fun _ h => h) 25
 refine Pp (oR_len _ _) (by rw [Ml,hl]) fun i hi => ?_
 have key : ∀ i,i < 25 → ∃ m,m < 25 ∧ 5 * (m % 5) + m / 5 = i:=by decide +kernel
 obtain ⟨m,hm,e1⟩:=key i hi
 have a:=h1 m hm (Nat.le_refl _)
 have b:=h2 i hi (Nat.le_refl _)
 try dsimp only at a b
 rw [e1] at a
 rw [a,b]
theorem cR_step (l : List B64) {x y : Nat} (hy : y < 5) : (cR l (5 * x + y + 1)).map u64V = ((cR l (5 * x + y)).map u64V).set x (u64V ((cR l (5 * x + y)).getD x 0 ^^^ l.getD (5 * y + x) 0)):=by
 rw [cR,Eh,show (5 * x + y) / 5 = x by omega,show (5 * x + y) % 5 = y by omega]
theorem bR_step (l c : List B64) {x y : Nat} (hy : y < 5) : (bR l c (5 * x + y + 1)).map u64V = ((bR l c (5 * x + y)).map u64V).set (5 * ((2 * x + 3 * y) % 5) + y) (u64V (rV l c (5 * y + x))):=by
 rw [bR,Eh,show (5 * x + y) / 5 = x by omega,show (5 * x + y) % 5 = y by omega]
theorem oR_step (b : List B64) {x y : Nat} (hy : y < 5) : (oR b (5 * x + y + 1)).map u64V = ((oR b (5 * x + y)).map u64V).set (5 * y + x) (u64V (oV b (5 * y + x))):=by
 rw [oR,Eh,show (5 * x + y) / 5 = x by omega,show (5 * x + y) % 5 = y by omega]
theorem rV_eq (l c : List B64) {x y : Nat} (hx : x < 5) : rV l c (5 * y + x) = rotl ((l.getD (5 * y + x) 0 ^^^ c.getD ((x + 4) % 5) 0) ^^^ rotl (c.getD ((x + 1) % 5) 0) 1) (turnL.getD (5 * y + x) 0):=by
 unfold rV
 rw [show (5 * y + x) % 5 = x by omega,BitVec.xor_assoc]
theorem oV_eq (b : List B64) {x y : Nat} (hx : x < 5) : oV b (5 * y + x) = b.getD (5 * y + x) 0 ^^^ (~~~ (b.getD (5 * y + (x + 1) % 5) 0) &&& b.getD (5 * y + (x + 2) % 5) 0):=by
 unfold oV
 rw [show (5 * y + x) % 5 = x by omega,show 5 * y + x - x = 5 * y by omega]
section
variable {C : Ctx} {l : Sl} {h : Ro} {ty t ty' : TypeId} {pos : String} {aft : Array Edge} {gd : Option (Nat × Bool)} {dst : Option Tmp} {x y : Operand} {T : Ty} {a : B64}
theorem OV_not1 (hT : tyOf t C.ts = some T) (hx : evl l x = some (u64V a)) (hy : evl l y = some (.int .u64 18446744073709551615)) : OV C l [] h ⟨dst,.binOp .xor t x y ty',ty,pos,aft,gd⟩ (u64V (~~~ a)):=by
 have e : Value.int .u64 18446744073709551615 = u64V (BitVec.allOnes 64):=by unfold u64V;rw [BitVec.toNat_allOnes];rfl
 rw [e] at hy
 have:=Fb (dst:=dst) (h:=h) (ty':=ty') (ty:=ty) (pos:=pos) (aft:=aft) (gd:=gd) hT hx hy
 rwa [BitVec.xor_allOnes] at this
end
attribute [local irreducible] GO GOl GDp Val Fn Res CellsAt ValE Blk OwnS MapA OwnPf Has rotl roundS cR bR oR rV oV colS rhoS chiS
open Go.Proofs (Tryz.prog)
theorem atY_c (h : Ro) (x y : Nat) (hx : x < 5) (hy : y < 5) : Val Tryz.prog 342 #[.int .i64 y,.int .i64 (2 * (x : Int) + 3 * (y : Int) - 5)] h (.int .i64 ((5 * ((2 * x + 3 * y) % 5) + y : Nat) : Int)):=by
 have:=atI_c h y (2 * (x : Int) + 3 * (y : Int) - 5) (by omega) (by omega)
 rw [show 2 * (x : Int) + 3 * (y : Int) - 5 + 5 = ((2 * x + 3 * y : Nat) : Int) by omega] at this
 rwa [show 5 * (((2 * x + 3 * y : Nat) : Int) % 5) + ((y : Int) + 5) % 5 = ((5 * ((2 * x + 3 * y) % 5) + y : Nat) : Int) by omega] at this
theorem atP_c (h : Ro) (x y p : Nat) (q : Int) (hq : q = (p : Int)) (hp : p < 3) (hx : x < 5) (hy : y < 5) : Val Tryz.prog 342 #[.int .i64 ((x : Int) + q),.int .i64 y] h (.int .i64 ((5 * y + (x + p) % 5 : Nat) : Int)):=by
 subst hq
 have:=atI_c h ((x : Int) + p) y (by omega) (by omega)
 rwa [show 5 * (((y : Int) + 5) % 5) + ((x : Int) + p + 5) % 5 = ((5 * y + (x + p) % 5 : Nat) : Int) by omega] at this
theorem roundR_c (h : Ro) (l : List B64) (hl : l.length = 25) (k : B64) : Val Tryz.prog 267 #[.agg (l.map u64V).toArray,.agg (turnL.map encN).toArray,u64V k] h (.agg ((roundS l k).map u64V).toArray):=by
 refine Au (args:=[_,_,_]) ts_ok Go.Proofs.Tryz.func267 rfl rfl fun w0 X0 => ?_
 obtain ⟨Z,hZ⟩ : ∃ Z,Z = (List.replicate 25 (0 : B64)).map u64V:=⟨_,rfl⟩
 obtain ⟨LL,hLL⟩ : ∃ LL,LL = l.map u64V:=⟨_,rfl⟩
 obtain ⟨TT,hTT⟩ : ∃ TT,TT = turnL.map encN:=⟨_,rfl⟩
 have hLl : LL.length = 25:=by rw [hLL,List.length_map,hl]
 have hTl : TT.length = 25:=by rw [hTT,List.length_map];rfl
 have hpl : partL (.agg LL.toArray) = LL:=rfl
 have hpt : partL (.agg TT.toArray) = TT:=rfl
 rw [← hLL,← hTT]
 repeat' (first|apply Ad|apply Ag|apply Aa|apply Ab|(apply Ac;(iterate 3 exact J))|(apply Aj;(iterate 3 exact J);(first|(apply Ao;(iterate 3 exact J);exact QR;(iterate 3 exact J);skip)|(apply Ay;exact J;intro b;skip)|(apply At;exact J;intro b;skip))))
 rename_i b3 b4 b6
 generalize b = b7
 rw [hpl,hpt]
 have hlg:=fun n (hn : n < 25) => (hLL ▸ Cs (l:=l) (n:=n) (by rw [hl];exact hn) : LL[n]? = some (u64V (l.getD n 0)))
 have htg:=fun n (hn : n < 25) => (hTT ▸ Rk (l:=turnL) (n:=n) (by show n < 25;exact hn) : TT[n]? = some (encN (turnL.getD n 0)))
 have c0 : (cR l (5 * 0)).map u64V = [.int .u64 0,.int .u64 0,.int .u64 0,.int .u64 0,.int .u64 0]:=by unfold cR;rfl
 refine Bh (X:=Nat) (fun x => x ≤ 5) (fun x => 5 - x) (fun x => [(8,.int .i64 x),(7,.pointer (some ⟨b7,0,none⟩)),(6,.pointer (some ⟨b6,0,none⟩)),(4,.pointer (some ⟨b4,0,none⟩)),(3,.pointer (some ⟨b3,0,none⟩)),(2,u64V k)])
  (fun x => [Blk b7 315 ((cR l (5 * x)).map u64V),Blk b6 282 (partL ty282.zero),Blk b4 257 TT,Blk b3 282 LL]) (fun _ => h) 0 (by omega) QS (by (try dsimp only);rw [c0];exact QT) rfl ?_
 rintro x hx ih
 by_cases hx5 : x < 5
 · repeat' (first|apply Ad|apply Ap|apply Ag|apply Aa|apply Ab|(apply Ac;(iterate 3 exact J))|(apply Af;exact J;all_goals (intro hc;try simp only [hcS,reduceCtorEq] at hc;try (exfalso;omega))))
   refine Bh (X:=Nat) (fun y => y ≤ 5) (fun y => 5 - y) (fun y => [(9,.int .i64 y),(8,.int .i64 x),(7,.pointer (some ⟨b7,0,none⟩)),(6,.pointer (some ⟨b6,0,none⟩)),(4,.pointer (some ⟨b4,0,none⟩)),(3,.pointer (some ⟨b3,0,none⟩)),(2,u64V k)])
    (fun y => [Blk b7 315 ((cR l (5 * x + y)).map u64V),Blk b6 282 (partL ty282.zero),Blk b4 257 TT,Blk b3 282 LL]) (fun _ => h) 0 (by omega) QS QT rfl ?_
   rintro y hy ih2
   by_cases hy5 : y < 5
   · have hst:=cR_step l (x:=x) hy5
     have hcv:=Cs (l:=cR l (5 * x + y)) (n:=x) (by rw [cR_len];exact hx5)
     have hlv:=hlg (5 * y + x) (by omega)
     have hcl : ((cR l (5 * x + y)).map u64V).length = 5:=by simp
     have hat:=at_c h x y hx5 hy5
     repeat' (first|apply Ad|apply Ap|apply Ah|apply Ag|apply Aa|apply Ab|(apply Cg;exact J;kernel_rfl;exact J;exact J;(first|(apply Fb;(iterate 3 exact J)));exact QA)|(apply Be;(iterate 3 exact J);omega;exact J;exact J)|(apply Ac;(iterate 3 exact J))|(apply Ba (n:=8) [0,1,2,3,4,5,6,7,8,9,10,11] [(0,0),(1,0),(2,0),(3,0),(4,0),(5,0),(6,1),(7,0),(8,0),(9,0),(10,0),(11,1)];kernel_rfl)|(apply Cb;exact J;kernel_rfl;(iterate 3 exact J))|(apply Cg;exact J;kernel_rfl;exact J;exact J;(first|(apply Cd (j:=x);(iterate 5 exact J);(with_reducible exact J);omega)|(apply Cd (j:=5 * y + x);(iterate 5 exact J);(with_reducible exact J);omega)|(apply Dg (b:=b7) (e:=315) (n:=x);(iterate 3 exact J);exact hcv)|(apply Dg (b:=b3) (e:=282) (n:=5 * y + x);(iterate 3 exact J);exact hlv));exact QA)|(apply Bq;exact J;kernel_rfl;(iterate 3 exact J);(first|(apply Ai;exact J;exact Ur;exact hat;refine ⟨Le.refl _,QN,?_⟩)|(apply Cw (n:=x) (cs':=(cR l (5 * x + y + 1)).map u64V);(iterate 3 exact J);exact QR;exact J;(rw [hcl];omega);exact hst;exact J;exact J;refine ⟨Le.refl _,QN,?_⟩)))|(apply Bj;kernel_rfl;exact J)|(apply Af;exact J;all_goals (intro hc;try simp only [hcS,reduceCtorEq] at hc;try (exfalso;omega))))
     all_goals
      have h3:=ih2 (y + 1) (by omega) (by omega)
      refine Bm QS QT (h3)
   · have hy3 : y = 5:=by omega
     subst hy3
     clear ih2
     repeat' (first|apply Ad|apply Ah|apply Aa|apply Ab|(apply Bi;exact J)|(apply Be;(iterate 3 exact J);omega;exact J;exact J)|(apply Ac;(iterate 3 exact J))|(apply Af;exact J;all_goals (intro hc;try simp only [hcS,reduceCtorEq] at hc;try (exfalso;omega))))
     all_goals
      have h3:=ih (x + 1) (by omega) (by omega)
      rw [show 5 * (x + 1) = 5 * x + 5 by omega] at h3
      refine Bm QS QT (h3)
 · have hx3 : x = 5:=by omega
   subst hx3
   clear ih
   have hcc : cR l (5 * 5) = colS l 25:=cR_col l
   rw [hcc]
   obtain ⟨c,hc9⟩ : ∃ c,c = colS l 25:=⟨_,rfl⟩
   rw [← hc9]
   have hcl : c.length = 5:=by rw [hc9,Sh]
   have hcg:=fun n (hn : n < 5) => Cs (l:=c) (n:=n) (by omega)
   generalize hCC : c.map u64V = CC at *
   repeat' (first|apply Ad|apply Ag|apply Aa|apply Ab|(apply Bi;exact J)|(apply Ac;(iterate 3 exact J))|(apply Aj;(iterate 3 exact J);(first|(apply Ao;(iterate 3 exact J);exact QR;(iterate 3 exact J);skip)|(apply At;exact J;intro b;skip)))|(apply Af;exact J;all_goals (intro hc;try simp only [hcS,reduceCtorEq] at hc;try (exfalso;omega))))
   generalize b = b10
   have c1 : (bR l c (5 * 0)).map u64V = partL ty282.zero:=by unfold bR;rfl
   have hrV:=fun x y (hx : x < 5) => rV_eq l c (x:=x) (y:=y) hx
   have hatY:=fun x y (hx : x < 5) (hy : y < 5) => atY_c h x y hx hy
   have hrl1:=fun a : B64 => rol_c h a 1 (by omega)
   have hrl2:=fun (a : B64) n (hn : n < 25) => rol_c h a (turnL.getD n 0) (Yi n hn)
   refine Bh (X:=Nat) (fun x => x ≤ 5) (fun x => 5 - x) (fun x => [(11,.int .i64 x),(10,.pointer (some ⟨b10,0,none⟩)),(7,.pointer (some ⟨b7,0,none⟩)),(6,.pointer (some ⟨b6,0,none⟩)),(4,.pointer (some ⟨b4,0,none⟩)),(3,.pointer (some ⟨b3,0,none⟩)),(2,u64V k)])
    (fun x => [Blk b10 282 ((bR l c (5 * x)).map u64V),Blk b7 315 CC,Blk b6 282 (partL ty282.zero),Blk b4 257 TT,Blk b3 282 LL]) (fun _ => h) 0 (by omega) QS (by (try dsimp only);rw [c1];exact QT) rfl ?_
   rintro x hx ih
   by_cases hx5 : x < 5
   · repeat' (first|apply Ad|apply Ap|apply Ag|apply Aa|apply Ab|(apply Ac;(iterate 3 exact J))|(apply Af;exact J;all_goals (intro hc;try simp only [hcS,reduceCtorEq] at hc;try (exfalso;omega))))
     refine Bh (X:=Nat) (fun y => y ≤ 5) (fun y => 5 - y) (fun y => [(12,.int .i64 y),(11,.int .i64 x),(10,.pointer (some ⟨b10,0,none⟩)),(7,.pointer (some ⟨b7,0,none⟩)),(6,.pointer (some ⟨b6,0,none⟩)),(4,.pointer (some ⟨b4,0,none⟩)),(3,.pointer (some ⟨b3,0,none⟩)),(2,u64V k)])
      (fun y => [Blk b10 282 ((bR l c (5 * x + y)).map u64V),Blk b7 315 CC,Blk b6 282 (partL ty282.zero),Blk b4 257 TT,Blk b3 282 LL]) (fun _ => h) 0 (by omega) QS QT rfl ?_
     rintro y hy ih2
     by_cases hy5 : y < 5
     · have hst:=bR_step l c (x:=x) hy5
       rw [hrV x y hx5] at hst
       have hlv:=hlg (5 * y + x) (by omega)
       have htv:=htg (5 * y + x) (by omega)
       have hca:=hcg ((x + 4) % 5) (by omega)
       have hcb:=hcg ((x + 1) % 5) (by omega)
       have hbl : ((bR l c (5 * x + y)).map u64V).length = 25:=by simp
       have hat:=at_c h x y hx5 hy5
       have hay:=hatY x y hx5 hy5
       have hr1:=hrl1 (c.getD ((x + 1) % 5) 0)
       have hr2:=hrl2 ((l.getD (5 * y + x) 0 ^^^ c.getD ((x + 4) % 5) 0) ^^^ rotl (c.getD ((x + 1) % 5) 0) 1) (5 * y + x) (by omega)
       have hCl : CC.length = 5:=by rw [← hCC,List.length_map,hcl]
       generalize l.getD (5 * y + x) 0 = lv at *
       generalize c.getD ((x + 4) % 5) 0 = ca at *
       generalize c.getD ((x + 1) % 5) 0 = cb at *
       generalize turnL.getD (5 * y + x) 0 = tv at *
       repeat' (first|apply Ad|apply Ap|apply Ah|apply Ag|apply Aa|apply Ab|(apply Bc;exact J;exact J;(first|(apply Dc (p:=2);(iterate 3 exact J);omega)|(apply Dc (p:=3);(iterate 3 exact J);omega));exact QA)|(apply Cg;exact J;kernel_rfl;exact J;exact J;(first|(apply Fb;(iterate 3 exact J))|(apply Dl;(iterate 3 exact J);omega;omega));exact QA)|(apply Be;(iterate 3 exact J);omega;exact J;exact J)|(apply Ln;(iterate 3 exact J);omega;exact J;exact J)|(apply Ac;(iterate 3 exact J))|(apply Bc;exact J;exact J;(first|(apply Cd (j:=5 * y + x);(iterate 5 exact J);(with_reducible exact J);omega)|(apply Cd (j:=5 * ((2 * x + 3 * y) % 5) + y);(iterate 5 exact J);(with_reducible exact J);omega)|(apply Dg (b:=b4) (e:=257) (n:=5 * y + x);(iterate 3 exact J);exact htv));exact QA)|(apply Aj;(iterate 3 exact J);(first|(apply Ai;exact J;exact Ur;(first|exact hat|exact hay);skip)|(apply Ai;exact J;exact has343;(first|exact hr1|exact hr2);skip)|(apply Cw (n:=5 * ((2 * x + 3 * y) % 5) + y) (cs':=(bR l c (5 * x + y + 1)).map u64V);(iterate 3 exact J);exact QR;exact J;(rw [hbl];omega);exact hst;exact J;exact J;skip)))|(apply Ba (n:=16) [0,1,2,3,4,5,6,7,8,9,10,11,12,13,14,15,16,17,18] [(0,0),(1,0),(5,0),(6,0),(7,0),(8,0),(9,0),(11,0),(12,0),(13,0),(14,0),(15,0),(2,1),(3,0),(4,0),(10,0),(16,1),(17,0),(18,0)];kernel_rfl)|(apply Hl;exact J;kernel_rfl;(iterate 5 exact J);omega)|(apply Cb;exact J;kernel_rfl;(iterate 3 exact J))|(apply Cg;exact J;kernel_rfl;exact J;exact J;(first|(apply Cd (j:=(x + 4) % 5);(iterate 5 exact J);omega;omega)|(apply Cd (j:=(x + 1) % 5);(iterate 5 exact J);omega;omega)|(apply Cd (j:=5 * y + x);(iterate 5 exact J);(with_reducible exact J);omega)|(apply Dg (b:=b7) (e:=315) (n:=(x + 4) % 5);(iterate 3 exact J);exact hca)|(apply Dg (b:=b7) (e:=315) (n:=(x + 1) % 5);(iterate 3 exact J);exact hcb)|(apply Dg (b:=b3) (e:=282) (n:=5 * y + x);(iterate 3 exact J);exact hlv));exact QA)|(apply Bq;exact J;kernel_rfl;(iterate 3 exact J);(first|(apply Ai;exact J;exact Ur;(first|exact hat|exact hay);refine ⟨Le.refl _,QN,?_⟩)|(apply Ai;exact J;exact has343;(first|exact hr1|exact hr2);refine ⟨Le.refl _,QN,?_⟩)))|(apply Bj;kernel_rfl;exact J)|(apply Af;exact J;all_goals (intro hc;try simp only [hcS,reduceCtorEq] at hc;try (exfalso;omega))))
       all_goals first
        | (have h3:=ih2 (y + 1) (by omega) (by omega)
           refine Bm QS QT (h3))
     · have hy3 : y = 5:=by omega
       subst hy3
       clear ih2
       repeat' (first|apply Ad|apply Ah|apply Aa|apply Ab|(apply Bi;exact J)|(apply Be;(iterate 3 exact J);omega;exact J;exact J)|(apply Ac;(iterate 3 exact J))|(apply Af;exact J;all_goals (intro hc;try simp only [hcS,reduceCtorEq] at hc;try (exfalso;omega))))
       all_goals
        have h3:=ih (x + 1) (by omega) (by omega)
        rw [show 5 * (x + 1) = 5 * x + 5 by omega] at h3
        refine Bm QS QT (h3)
   · have hx3 : x = 5:=by omega
     subst hx3
     clear ih hrV hatY hrl1 hrl2
     have hbb : bR l c (5 * 5) = rhoS l c 25:=bR_rho l c
     rw [hbb]
     obtain ⟨r,hr9⟩ : ∃ r,r = rhoS l c 25:=⟨_,rfl⟩
     rw [← hr9]
     have hrl : r.length = 25:=by rw [hr9,Mf]
     have hrg:=fun n (hn : n < 25) => Cs (l:=r) (n:=n) (by omega)
     generalize hRR : r.map u64V = RR at *
     repeat' (first|apply Ad|apply Ag|apply Aa|apply Ab|(apply Bi;exact J)|(apply Ac;(iterate 3 exact J))|(apply Aj;(iterate 3 exact J);(first|(apply Ao;(iterate 3 exact J);exact QR;(iterate 3 exact J);skip)|(apply At;exact J;intro b;skip)))|(apply Af;exact J;all_goals (intro hc;try simp only [hcS,reduceCtorEq] at hc;try (exfalso;omega))))
     generalize b = b14
     have c2 : (oR r (5 * 0)).map u64V = partL ty282.zero:=by unfold oR;rfl
     refine Bh (X:=Nat) (fun x => x ≤ 5) (fun x => 5 - x) (fun x => [(15,.int .i64 x),(14,.pointer (some ⟨b14,0,none⟩)),(10,.pointer (some ⟨b10,0,none⟩)),(6,.pointer (some ⟨b6,0,none⟩)),(2,u64V k)])
      (fun x => [Blk b14 282 ((oR r (5 * x)).map u64V),Blk b10 282 RR,Blk b6 282 (partL ty282.zero)]) (fun _ => h) 0 (by omega) QS (by (try dsimp only);rw [c2];exact QT) rfl ?_
     rintro x hx ih
     by_cases hx5 : x < 5
     · repeat' (first|apply Ad|apply Ap|apply Ag|apply Aa|apply Ab|(apply Ac;(iterate 3 exact J))|(apply Af;exact J;all_goals (intro hc;try simp only [hcS,reduceCtorEq] at hc;try (exfalso;omega))))
       refine Bh (X:=Nat) (fun y => y ≤ 5) (fun y => 5 - y) (fun y => [(16,.int .i64 y),(15,.int .i64 x),(14,.pointer (some ⟨b14,0,none⟩)),(10,.pointer (some ⟨b10,0,none⟩)),(6,.pointer (some ⟨b6,0,none⟩)),(2,u64V k)])
        (fun y => [Blk b14 282 ((oR r (5 * x + y)).map u64V),Blk b10 282 RR,Blk b6 282 (partL ty282.zero)]) (fun _ => h) 0 (by omega) QS QT rfl ?_
       rintro y hy ih2
       by_cases hy5 : y < 5
       · have hst:=oR_step r (x:=x) hy5
         rw [oV_eq r hx5] at hst
         have hg0:=hrg (5 * y + x) (by omega)
         have hg1:=hrg (5 * y + (x + 1) % 5) (by omega)
         have hg2:=hrg (5 * y + (x + 2) % 5) (by omega)
         have hol : ((oR r (5 * x + y)).map u64V).length = 25:=by simp
         have ha0:=at_c h x y hx5 hy5
         have ha1:=atP_c h x y 1 1 rfl (by omega) hx5 hy5
         have ha2:=atP_c h x y 2 2 rfl (by omega) hx5 hy5
         have hRl : RR.length = 25:=by rw [← hRR,List.length_map,hrl]
         generalize r.getD (5 * y + x) 0 = r0 at *
         generalize r.getD (5 * y + (x + 1) % 5) 0 = r1 at *
         generalize r.getD (5 * y + (x + 2) % 5) 0 = r2 at *
         repeat' (first|apply Ad|apply Ap|apply Ah|apply Ag|apply Aa|apply Ab|(apply Cg;exact J;kernel_rfl;exact J;exact J;(first|(apply OV_not1;(iterate 3 exact J))|(apply Fb;(iterate 3 exact J))|(apply Axa;(iterate 3 exact J)));exact QA)|(apply Be;(iterate 3 exact J);omega;exact J;exact J)|(apply Ac;(iterate 3 exact J))|(apply Ba (n:=25) [0,1,2,3,4,5,6,7,8,9,10,11,12,13,14,15,16,17,18,19,20,21,22,23,24] [(0,0),(1,0),(3,0),(4,0),(8,0),(9,0),(10,0),(15,0),(16,0),(17,0),(2,1),(5,1),(6,0),(7,0),(11,1),(12,0),(13,0),(14,0),(18,1),(19,0),(20,0),(21,0),(22,0),(23,0),(24,1)];kernel_rfl)|(apply Hl;exact J;kernel_rfl;(iterate 5 exact J);omega)|(apply Cb;exact J;kernel_rfl;(iterate 3 exact J))|(apply Cg;exact J;kernel_rfl;exact J;exact J;(first|(apply Cd (j:=5 * y + x);(iterate 5 exact J);(with_reducible exact J);omega)|(apply Cd (j:=5 * y + (x + 1) % 5);(iterate 5 exact J);(with_reducible exact J);omega)|(apply Cd (j:=5 * y + (x + 2) % 5);(iterate 5 exact J);(with_reducible exact J);omega)|(apply Dg (b:=b10) (e:=282) (n:=5 * y + x);(iterate 3 exact J);exact hg0)|(apply Dg (b:=b10) (e:=282) (n:=5 * y + (x + 1) % 5);(iterate 3 exact J);exact hg1)|(apply Dg (b:=b10) (e:=282) (n:=5 * y + (x + 2) % 5);(iterate 3 exact J);exact hg2));exact QA)|(apply Bq;exact J;kernel_rfl;(iterate 3 exact J);(first|(apply Ai;exact J;exact Ur;(first|exact ha0|exact ha1|exact ha2);refine ⟨Le.refl _,QN,?_⟩)|(apply Cw (n:=5 * y + x) (cs':=(oR r (5 * x + y + 1)).map u64V);(iterate 3 exact J);exact QR;exact J;(rw [hol];omega);exact hst;exact J;exact J;refine ⟨Le.refl _,QN,?_⟩)))|(apply Bj;kernel_rfl;exact J)|(apply Af;exact J;all_goals (intro hc;try simp only [hcS,reduceCtorEq] at hc;try (exfalso;omega))))
         all_goals first
          | (have h3:=ih2 (y + 1) (by omega) (by omega)
             refine Bm QS QT (h3))
       · have hy3 : y = 5:=by omega
         subst hy3
         clear ih2
         repeat' (first|apply Ad|apply Ah|apply Aa|apply Ab|(apply Bi;exact J)|(apply Be;(iterate 3 exact J);omega;exact J;exact J)|(apply Ac;(iterate 3 exact J))|(apply Af;exact J;all_goals (intro hc;try simp only [hcS,reduceCtorEq] at hc;try (exfalso;omega))))
         all_goals
          have h3:=ih (x + 1) (by omega) (by omega)
          rw [show 5 * (x + 1) = 5 * x + 5 by omega] at h3
          refine Bm QS QT (h3)
     · have hx3 : x = 5:=by omega
       subst hx3
       clear ih
       have hoo : oR r (5 * 5) = chiS r l 25:=oR_chi r l hl
       rw [hoo]
       obtain ⟨m,hm9⟩ : ∃ m,m = chiS r l 25:=⟨_,rfl⟩
       rw [← hm9]
       have hml : m.length = 25:=by rw [hm9,Ml,hl]
       have hmv:=Cs (l:=m) (n:=0) (by omega)
       have hmm : (m.map u64V).length = 25:=by rw [List.length_map,hml]
       have hro : roundS l k = m.set 0 (m.getD 0 0 ^^^ k):=by
        rw [hm9,hr9,hc9,roundS]
       have hst : (roundS l k).map u64V = (m.map u64V).set 0 (u64V (m.getD 0 0 ^^^ k)):=by rw [← Eh,hro]
       have hol : ((roundS l k).map u64V).length = 25:=by rw [List.length_map,Pn,hl]
       have ho1:=Ss (roundS l k)
       generalize m.getD 0 0 = m0 at *
       generalize (roundS l k).map u64V = OO at *
       repeat' (first|apply Ad|apply Aa|apply Ab|(apply Bi;exact J)|(apply Bc;exact J;exact J;(first|(apply Hi (b:=b14) (e:=282) (cs:=OO);(iterate 3 exact J);exact hol)|(apply Fb;(iterate 3 exact J)));exact QA)|(apply Ac;(iterate 3 exact J))|(apply Bc;exact J;exact J;(first|(apply Cd (j:=0);(iterate 6 exact J);omega)|(apply Dg (b:=b14) (e:=282) (n:=0);(iterate 3 exact J);exact hmv));exact QA)|(apply Aj;(iterate 3 exact J);(first|(apply Cw (n:=0) (cs':=OO);(iterate 3 exact J);exact QR;exact J;(rw [hmm];omega);exact hst;exact J;exact J;skip)|(apply Cn (cs':=OO);(iterate 3 exact J);exact QR;(exact hol.symm);exact hol;exact ho1;skip)))|(apply Af;exact J;all_goals (intro hc;try simp only [hcS,reduceCtorEq] at hc;try (exfalso;omega))))
       all_goals first
        | (exact Jg (rs:=[.cell 6 282]) (vs:=[.agg OO.toArray]) rfl rfl ⟨⟨_,rfl,Bd rfl QM (Dx hol)⟩,trivial⟩ rfl)
end Go.Hw

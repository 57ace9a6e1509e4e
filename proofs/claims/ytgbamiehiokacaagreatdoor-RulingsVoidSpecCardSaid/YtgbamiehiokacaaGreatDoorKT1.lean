import Derived.Test.YtgbamiehiokacaaGreatDoorDA
import Derived.Test.YtgbamiehiokacaaGreatDoorHD
set_option linter.unusedVariables false
set_option linter.unusedSimpArgs false
set_option maxRecDepth 100000
set_option maxHeartbeats 4000000
namespace Go.Hw
open Go
attribute [local irreducible] GO GOl GDp Val Fn Res CellsAt ValE Blk OwnS MapA OwnPf Has
open Go.Proofs (Tryz.prog)
section
variable {C : Ctx} {l : Sl} {h : Ro} {ty t ty' : TypeId} {pos : String} {aft : Array Edge} {gd : Option (Nat × Bool)} {dst : Option Tmp} {x y : Operand} {T : Ty}
theorem OV_xorN {m n : Nat} {p : Int} (hT : tyOf t C.ts = some T) (hx : evl l x = some (.int .i64 p)) (hp : p = (m : Int)) (hy : evl l y = some (.int .i64 (n : Int))) (hm : m < 512) (hn : n < 512) : OV C l [] h ⟨dst,.binOp .xor t x y ty',ty,pos,aft,gd⟩ (.int .i64 ((m ^^^ n : Nat) : Int)):=by
 subst hp
 refine Gi hT hx hy ?_
 have h1 : m ^^^ n < 512:=Nat.xor_lt_two_pow (n:=9) hm hn
 have e : (BitVec.ofInt 64 (m : Int) ^^^ BitVec.ofInt 64 (n : Int)).toNat = m ^^^ n:=by
  rw [BitVec.toNat_xor,BitVec.ofInt_natCast,BitVec.ofInt_natCast,BitVec.toNat_ofNat,BitVec.toNat_ofNat,Nat.mod_eq_of_lt (by omega),Nat.mod_eq_of_lt (by omega)]
 simp only [pvBin,if_true]
 show some (Value.int .i64 (IntKind.i64.wrap ((BitVec.ofInt 64 (m : Int) ^^^ BitVec.ofInt 64 (n : Int)).toNat : Int))) = _
 rw [e,Jw _ ⟨by omega,by omega⟩]
end
theorem rotl_zero (x : B64) : rotl x 0 = x:=by
 unfold rotl
 have : x >>> (64 - 0) = 0#64:=by
  apply BitVec.eq_of_toNat_eq
  simp [BitVec.toNat_ushiftRight,Nat.shiftRight_eq_div_pow]
  exact x.isLt
 rw [this];simp
theorem rol_c (h : Ro) (x : B64) (n : Nat) (hn : n < 64) : Val Tryz.prog 343 #[u64V x,.int .i64 n] h (u64V (rotl x n)):=by
 refine Au (args:=[_,_]) ts_ok Go.Proofs.Tryz.func343 rfl rfl fun w0 X0 => ?_
 have hm : (n : Int) % 64 = n:=by omega
 by_cases h0 : n = 0
 · subst h0
   rw [rotl_zero]
   repeat' (first|apply Ad|apply Aa|apply Ab|(apply Bc;exact J;exact J;(first|(apply Dl;(iterate 3 exact J);omega;omega));exact QA)|(apply Ac;(iterate 3 exact J))|(apply Af;exact J;all_goals (intro hc;try simp only [hcS,reduceCtorEq] at hc;try (exfalso;omega)))|(apply Av;(iterate 3 exact J)))
   all_goals first|rfl|(exfalso;omega)|(exfalso;simp [Dj] at hc;done)
 · repeat' (first|apply Ad|apply Ap|apply Aa|apply Ab|(apply Bc;exact J;exact J;(first|(apply Dl;(iterate 3 exact J);omega;omega));exact QA)|(apply Cg;exact J;kernel_rfl;exact J;exact J;(first|(apply Oo;(iterate 3 exact J)));exact QA)|(apply Ac;(iterate 3 exact J))|(apply Ba (n:=4) [0,1,2,3,4,5,6,7,8] [(0,0),(1,0),(2,0),(3,0),(4,0),(5,0),(6,0),(7,0),(8,0)];kernel_rfl)|(apply Gv;exact J;kernel_rfl;(iterate 5 exact J);omega)|(apply Cb;exact J;kernel_rfl;(iterate 3 exact J))|(apply Cg;exact J;kernel_rfl;exact J;exact J;(first|(apply Il (n:=n);exact J;exact J;exact hm)|(apply Mp (n:=64 - n);exact J;exact J;omega));exact QA)|(apply Bj;kernel_rfl;exact J)|(apply Af;exact J;all_goals (intro hc;try simp only [hcS,reduceCtorEq] at hc;try (exfalso;omega)))|(apply Av;(iterate 3 exact J)))
   all_goals first|rfl|(exfalso;omega)
theorem atI_c (h : Ro) (x y : Int) (hx : 0 ≤ x ∧ x ≤ 100) (hy : -5 ≤ y ∧ y ≤ 100) : Val Tryz.prog 342 #[.int .i64 x,.int .i64 y] h (.int .i64 (5 * ((y + 5) % 5) + (x + 5) % 5)):=by
 refine Au (args:=[_,_]) ts_ok Go.Proofs.Tryz.func342 rfl rfl fun w0 X0 => ?_
 repeat' (first|apply Ad|apply Aa|apply Ab|(apply Bc;exact J;exact J;(first|(apply Dl;(iterate 3 exact J);omega;omega)|(apply Dc (p:=5);(iterate 3 exact J);omega));exact QA)|(apply Be;(iterate 3 exact J);omega;exact J;exact J)|(apply Ac;(iterate 3 exact J))|(apply Av;(iterate 3 exact J)))
 all_goals first|rfl
theorem at_c (h : Ro) (x y : Nat) (hx : x < 5) (hy : y < 5) : Val Tryz.prog 342 #[.int .i64 x,.int .i64 y] h (.int .i64 ((5 * y + x : Nat) : Int)):=by
 have:=atI_c h x y (by omega) (by omega)
 rwa [show 5 * (((y : Int) + 5) % 5) + ((x : Int) + 5) % 5 = ((5 * y + x : Nat) : Int) by omega] at this
theorem allOneN (l : List Nat) : allOne (l.map encN) = true:=by
 induction l with
 | nil => rfl
 | cons a r ih => exact ih
theorem Ss (l : List B64) : allOne (l.map u64V) = true:=by
 induction l with
 | nil => rfl
 | cons a r ih => exact ih
theorem turnsR_c (h : Ro) : Val Tryz.prog 264 #[] h (.agg (turnL.map encN).toArray):=by
 refine Au (args:=[]) ts_ok Go.Proofs.Tryz.func264 rfl rfl fun w0 X0 => ?_
 repeat' (first|apply Ad|apply Ag|apply Aa|apply Ab|(apply Ac;(iterate 3 exact J))|(apply Aj;(iterate 3 exact J);(first|(apply Ao;(iterate 3 exact J);exact QR;(iterate 3 exact J);skip)|(apply At;exact J;intro b;skip))))
 rename_i b0
 generalize b = b1
 refine Bh (X:=Nat) (fun n => n ≤ 24) (fun n => 24 - n) (fun n => [(4,.int .i64 n),(2,.int .i64 ((xyT n).1 : Nat)),(3,.int .i64 ((xyT n).2 : Nat)),(1,.pointer (some ⟨b1,0,none⟩)),(0,.pointer (some ⟨b0,0,none⟩))])
  (fun n => [Blk b1 257 ((turnT n).map encN),Blk b0 257 ((turnT 0).map encN)]) (fun _ => h) 0 (by omega) QS QT rfl ?_
 rintro n hn ih
 by_cases hn2 : n < 24
 · have hxy:=xyT_lt n
   have hxy2 : (xyT (n + 1)) = ((xyT n).2,(2 * (xyT n).1 + 3 * (xyT n).2) % 5):=rfl
   have htu : (turnT (n + 1)).map encN = ((turnT n).map encN).set (5 * (xyT n).2 + (xyT n).1) (encN ((n + 1) * (n + 2) / 2 % 64)):=by rw [turnT,Eh]
   have hln : ((turnT n).map encN).length = 25:=by simp
   have hmul : (n + 1) * (n + 2) ≤ 25 * 26:=Nat.mul_le_mul (by omega) (by omega)
   have hmi : ((n : Int) + 1) * ((n : Int) + 2) = (((n + 1) * (n + 2) : Nat) : Int):=by push_cast;rfl
   generalize (n + 1) * (n + 2) = q at *
   generalize (xyT n).1 = x at *
   generalize (xyT n).2 = y at *
   obtain ⟨hx,hy⟩:=hxy
   have htv : (turnT (n + 1)).map encN = ((turnT n).map encN).set (5 * y + x) (.int .i64 (((n : Int) + 1) * ((n : Int) + 2) / 2 % 64)):=by
    rw [htu,hmi]
    have e : ((q / 2 % 64 : Nat) : Int) = (q : Int) / 2 % 64:=by omega
    unfold encN;rw [e]
   have hye : (((2 * x + 3 * y) % 5 : Nat) : Int) = (2 * (x : Int) + 3 * (y : Int)) % 5:=by omega
   have hat:=at_c h x y hx hy
   repeat' (first|apply Ad|apply Ap|apply Ah|apply Ag|apply Aa|apply Ab|(apply Bc;exact J;exact J;(first|(apply Dc (p:=2);(iterate 3 exact J);omega)|(apply Dc (p:=3);(iterate 3 exact J);omega)|(apply Dc;(iterate 3 exact J);rw [hmi];omega)|(apply Je;(iterate 3 exact J);rw [hmi];omega;omega)|(apply Dl;(iterate 3 exact J);(first|omega|(rw [hmi];omega));omega));exact QA)|(apply Be;(iterate 3 exact J);omega;exact J;exact J)|(apply Ac;(iterate 3 exact J))|(apply Bc;exact J;exact J;(first|(apply Cd (j:=5 * y + x);(iterate 5 exact J);omega;omega));exact QA)|(apply Aj;(iterate 3 exact J);(first|(apply Ai;exact J;exact Ur;exact hat;skip)|(apply Cw (n:=5 * y + x) (cs':=(turnT (n + 1)).map encN);(iterate 3 exact J);exact QR;exact J;(rw [hln];omega);exact htv;exact J;exact J;skip)))|(apply Af;exact J;all_goals (intro hc;try simp only [hcS,reduceCtorEq] at hc;try (exfalso;omega))))
   all_goals
    have h3:=ih (n + 1) (by omega) (by omega)
    rw [hxy2] at h3
    dsimp only at h3
    rw [hye] at h3
    refine Bm QS QT (h3)
 · have hn3 : n = 24:=by omega
   subst hn3
   clear ih
   have e1 : (turnT 24).map encN = turnL.map encN:=rfl
   have e2 : ((turnT 0).map encN).length = (turnL.map encN).length:=by rw [List.length_map,List.length_map];rfl
   have e3 : (turnL.map encN).length = 25:=by rw [List.length_map];rfl
   rw [e1]
   have e4:=allOneN turnL
   generalize turnL.map encN = TT at *
   generalize (turnT 0).map encN = T0 at *
   repeat' (first|apply Ad|apply Aa|apply Ab|(apply Bi;exact J)|(apply Bc;exact J;exact J;(first|(apply Hi (b:=b1) (e:=257) (cs:=TT);(iterate 3 exact J);exact e3));exact QA)|(apply Ac;(iterate 3 exact J))|(apply Aj;(iterate 3 exact J);(first|(apply Cn (cs':=TT);(iterate 3 exact J);exact QR;exact e2;exact e3;exact e4;skip)))|(apply Af;exact J;all_goals (intro hc;try simp only [hcS,reduceCtorEq] at hc;try (exfalso;omega))))
   all_goals exact Jg (rs:=[.cell 0 257]) (vs:=[.agg TT.toArray]) rfl rfl ⟨⟨_,rfl,Bd rfl QM (Dx e3)⟩,trivial⟩ rfl
def cS : Nat → List B64
 | 0 => List.replicate 168 0
 | n + 1 => (cS n).set n (BitVec.ofNat 64 (sT n % 2))
@[simp] theorem cS_len : ∀ n,(cS n).length = 168
 | 0 => by simp [cS]
 | n + 1 => by rw [cS,List.length_set,cS_len n]
theorem cS_get : ∀ (n k : Nat),k < n → n ≤ 168 → (cS n).getD k 0 = BitVec.ofNat 64 (sT k % 2)
 | 0,k,hk,_ => by omega
 | n + 1,k,hk,hn => by
   rw [cS]
   by_cases e : k = n
   · subst e
     have : k < (cS k).length:=by rw [cS_len];omega
     simp [List.getD,List.getElem?_set_self this]
   · have h1:=cS_get n k (by omega) (by omega)
     simp only [List.getD] at h1 ⊢
     rw [List.getElem?_set_ne (fun h => e h.symm)]
     exact h1
theorem u64_small {m : Nat} (h : m < 512) : u64V (BitVec.ofNat 64 m) = .int .u64 (m : Int):=by
 unfold u64V
 rw [BitVec.toNat_ofNat,Nat.mod_eq_of_lt (by omega)]
theorem constR_c (h : Ro) : Val Tryz.prog 265 #[] h (.agg (dgK.map u64V).toArray):=by
 refine Au (args:=[]) ts_ok Go.Proofs.Tryz.func265 rfl rfl fun w0 X0 => ?_
 repeat' (first|apply Ad|apply Ag|apply Aa|apply Ab|(apply Ac;(iterate 3 exact J))|(apply Aj;(iterate 3 exact J);(first|(apply Ao;(iterate 3 exact J);exact QR;(iterate 3 exact J);skip)|(apply At;exact J;intro b;skip))))
 rename_i b0
 generalize b = b1
 refine Bh (X:=Nat) (fun n => n ≤ 168) (fun n => 168 - n) (fun n => [(3,.int .i64 n),(2,.int .i64 (sT n : Nat)),(1,.pointer (some ⟨b1,0,none⟩)),(0,.pointer (some ⟨b0,0,none⟩))])
  (fun n => [Blk b1 331 ((cS n).map u64V),Blk b0 259 ((kT 0).map u64V)]) (fun _ => h) 0 (by omega) QS QT rfl ?_
 rintro n hn ih
 by_cases hn2 : n < 168
 · have hs:=sT_le n
   have hsn : sT (n + 1) = sNext (sT n):=rfl
   have htv : (cS (n + 1)).map u64V = ((cS n).map u64V).set n (.int .u64 ((sT n % 2 : Nat) : Int)):=by rw [cS,Eh,u64_small (by omega)]
   have hln : ((cS n).map u64V).length = 168:=by simp
   generalize sT n = s at *
   by_cases hbig : 2 * s > 255
   · have hsn2 : sNext s = (2 * s ^^^ 256) ^^^ 113:=by unfold sNext;rw [if_pos hbig,Nat.xor_assoc];rfl
     have hx9 : 2 * s ^^^ 256 < 512:=Nat.xor_lt_two_pow (n:=9) (by omega) (by omega)
     repeat' (first|apply Ad|apply Ap|apply Ah|apply Ag|apply Aa|apply Ab|(apply Bc;exact J;exact J;(first|(apply Dc (p:=2);(iterate 3 exact J);omega)|(apply Sz (n:=s);(iterate 3 exact J);omega)|(apply Kk;(iterate 4 exact J);exact Em (by omega))|(apply OV_xorN (m:=2 * s) (n:=256);exact J;exact J;omega;exact J;omega;omega)|(apply OV_xorN (m:=2 * s ^^^ 256) (n:=113);(iterate 4 exact J);exact hx9;omega));exact QA)|(apply Be;(iterate 3 exact J);omega;exact J;exact J)|(apply Ac;(iterate 3 exact J))|(apply Bc;exact J;exact J;(first|(apply Cd (j:=n);(iterate 5 exact J);(with_reducible exact J);omega));exact QA)|(apply Aj;(iterate 3 exact J);(first|(apply Cw (n:=n) (cs':=(cS (n + 1)).map u64V);(iterate 3 exact J);exact QR;exact J;(rw [hln];omega);exact htv;exact J;exact J;skip)))|(apply Af;exact J;all_goals (intro hc;try simp only [hcS,reduceCtorEq] at hc;try (exfalso;omega))))
     all_goals first
      | (exfalso;omega)
      | (have h3:=ih (n + 1) (by omega) (by omega)
         rw [hsn,hsn2] at h3
         refine Bm QS QT (h3))
   · have hsn2 : sNext s = 2 * s:=by unfold sNext;rw [if_neg hbig]
     repeat' (first|apply Ad|apply Ap|apply Ah|apply Ag|apply Aa|apply Ab|(apply Bc;exact J;exact J;(first|(apply Dc (p:=2);(iterate 3 exact J);omega)|(apply Sz (n:=s);(iterate 3 exact J);omega)|(apply Kk;(iterate 4 exact J);exact Em (by omega)));exact QA)|(apply Be;(iterate 3 exact J);omega;exact J;exact J)|(apply Ac;(iterate 3 exact J))|(apply Bc;exact J;exact J;(first|(apply Cd (j:=n);(iterate 5 exact J);(with_reducible exact J);omega));exact QA)|(apply Aj;(iterate 3 exact J);(first|(apply Cw (n:=n) (cs':=(cS (n + 1)).map u64V);(iterate 3 exact J);exact QR;exact J;(rw [hln];omega);exact htv;exact J;exact J;skip)))|(apply Af;exact J;all_goals (intro hc;try simp only [hcS,reduceCtorEq] at hc;try (exfalso;omega))))
     all_goals first
      | (exfalso;omega)
      | (have h3:=ih (n + 1) (by omega) (by omega)
         rw [hsn,hsn2,show ((2 * s : Nat) : Int) = 2 * (s : Int) by omega] at h3
         refine Bm QS QT (h3))
 · have hn3 : n = 168:=by omega
   subst hn3
   clear ih
   repeat' (first|apply Ad|apply Ag|apply Aa|apply Ab|(apply Bi;exact J)|(apply Ac;(iterate 3 exact J))|(apply Aj;(iterate 3 exact J);(first|(apply Ao;(iterate 3 exact J);exact QR;(iterate 3 exact J);skip)|(apply At;exact J;intro b;skip)))|(apply Af;exact J;all_goals (intro hc;try simp only [hcS,reduceCtorEq] at hc;try (exfalso;omega))))
   generalize b = b4
   refine Bh (X:=Nat) (fun i => i ≤ 24) (fun i => 24 - i) (fun i => [(5,.int .i64 i),(4,.pointer (some ⟨b4,0,none⟩)),(1,.pointer (some ⟨b1,0,none⟩)),(0,.pointer (some ⟨b0,0,none⟩))])
    (fun i => [Blk b4 259 ((kT i).map u64V),Blk b1 331 ((cS 168).map u64V),Blk b0 259 ((kT 0).map u64V)]) (fun _ => h) 0 (by omega) QS QT rfl ?_
   rintro i hi ih
   by_cases hi2 : i < 24
   · have hk0:=kT_set0 i hi2
     rw [← hk0]
     repeat' (first|apply Ad|apply Ap|apply Ag|apply Aa|apply Ab|(apply Ac;(iterate 3 exact J))|(apply Af;exact J;all_goals (intro hc;try simp only [hcS,reduceCtorEq] at hc;try (exfalso;omega))))
     refine Bh (X:=Nat) (fun j => j ≤ 7) (fun j => 7 - j) (fun j => [(6,.int .i64 j),(5,.int .i64 i),(4,.pointer (some ⟨b4,0,none⟩)),(1,.pointer (some ⟨b1,0,none⟩)),(0,.pointer (some ⟨b0,0,none⟩))])
      (fun j => [Blk b4 259 (((kT i).set i (kAcc i j)).map u64V),Blk b1 331 ((cS 168).map u64V),Blk b0 259 ((kT 0).map u64V)]) (fun _ => h) 0 (by omega) QS QT rfl ?_
     rintro j hj ih2
     by_cases hj2 : j < 7
     · have hg:=kT_get (i:=i) (j:=j) hi2
       have hst:=kT_step i j
       have hcg:=Cs (l:=cS 168) (n:=7 * i + j) (by rw [cS_len];omega)
       rw [cS_get 168 (7 * i + j) (by omega) (by omega)] at hcg
       have hp2 : 2 ^ j ≤ 64:=Nat.le_trans (Nat.pow_le_pow_right (by omega) (show j ≤ 6 by omega)) (by decide)
       have hp1 : 1 ≤ 2 ^ j:=Nat.one_le_two_pow
       have hkl : (((kT i).set i (kAcc i j)).map u64V).length = 24:=by simp
       generalize BitVec.ofNat 64 (sT (7 * i + j) % 2) = cb at *
       repeat' (first|apply Ad|apply Ap|apply Ah|apply Ag|apply Aa|apply Ab|(apply Cg;exact J;kernel_rfl;exact J;exact J;(first|(apply Dc (p:=7);(iterate 3 exact J);omega)|(apply Oo;(iterate 3 exact J))|(apply Sx;(iterate 3 exact J);omega)|(apply Yd;exact J;exact J;omega)|(apply Il (n:=2 ^ j - 1);exact J;exact J;omega));exact QA)|(apply Be;(iterate 3 exact J);omega;exact J;exact J)|(apply Ac;(iterate 3 exact J))|(apply Ba (n:=17) [0,1,2,3,4,5,6,7,8,9,10,11,12,13,14,15,16] [(0,0),(1,0),(2,0),(3,0),(4,0),(5,0),(6,0),(7,0),(8,0),(9,0),(10,0),(11,0),(12,0),(13,0),(14,0),(15,0),(16,1)];kernel_rfl)|(apply Hl;exact J;kernel_rfl;(iterate 5 exact J);omega)|(apply Cb;exact J;kernel_rfl;(iterate 3 exact J))|(apply Cg;exact J;kernel_rfl;exact J;exact J;(first|(apply Cd (j:=i);(iterate 5 exact J);(with_reducible exact J);omega)|(apply Cd (j:=7 * i + j);(iterate 5 exact J);omega;omega)|(apply Dg (b:=b4) (e:=259) (n:=i);(iterate 3 exact J);exact hg)|(apply Dg (b:=b1) (e:=331) (n:=7 * i + j);(iterate 3 exact J);exact hcg));exact QA)|(apply Bq;exact J;kernel_rfl;(iterate 3 exact J);(first|(apply Cw (n:=i) (cs':=((kT i).set i (kAcc i (j + 1))).map u64V);(iterate 3 exact J);exact QR;exact J;(rw [hkl];omega);exact hst;exact J;exact J;refine ⟨Le.refl _,QN,?_⟩)))|(apply Bj;kernel_rfl;exact J)|(apply Af;exact J;all_goals (intro hc;try simp only [hcS,reduceCtorEq] at hc;try (exfalso;omega))))
       all_goals first
        | (exfalso;omega)
        | (have h3:=ih2 (j + 1) (by omega) (by omega)
           refine Bm QS QT (h3))
     · have hj3 : j = 7:=by omega
       subst hj3
       clear ih2
       repeat' (first|apply Ad|apply Ah|apply Aa|apply Ab|(apply Bi;exact J)|(apply Be;(iterate 3 exact J);omega;exact J;exact J)|(apply Ac;(iterate 3 exact J))|(apply Af;exact J;all_goals (intro hc;try simp only [hcS,reduceCtorEq] at hc;try (exfalso;omega))))
       have h3:=ih (i + 1) (by omega) (by omega)
       refine Bm QS QT (h3)
   · have hi3 : i = 24:=by omega
     subst hi3
     clear ih
     have e2 : ((kT 0).map u64V).length = (dgK.map u64V).length:=by rw [List.length_map,List.length_map];rfl
     have e3 : (dgK.map u64V).length = 24:=by rw [List.length_map,dgK,No]
     have e4:=Ss dgK
     show GO _ _ _ [Blk b4 259 (dgK.map u64V),_,_] _ _
     generalize dgK.map u64V = KK at *
     generalize (kT 0).map u64V = K0 at *
     repeat' (first|apply Ad|apply Aa|apply Ab|(apply Bi;exact J)|(apply Bc;exact J;exact J;(first|(apply Hi (b:=b4) (e:=259) (cs:=KK);(iterate 3 exact J);exact e3));exact QA)|(apply Ac;(iterate 3 exact J))|(apply Aj;(iterate 3 exact J);(first|(apply Cn (cs':=KK);(iterate 3 exact J);exact QR;exact e2;exact e3;exact e4;skip)))|(apply Af;exact J;all_goals (intro hc;try simp only [hcS,reduceCtorEq] at hc;try (exfalso;omega))))
     all_goals exact Jg (rs:=[.cell 0 259]) (vs:=[.agg KK.toArray]) rfl rfl ⟨⟨_,rfl,Bd rfl QM (Dx e3)⟩,trivial⟩ rfl
end Go.Hw

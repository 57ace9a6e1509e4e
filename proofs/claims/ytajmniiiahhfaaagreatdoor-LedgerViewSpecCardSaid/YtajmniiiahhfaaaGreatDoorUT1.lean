import Derived.Test.YtajmniiiahhfaaaGreatDoorDA
import Derived.Test.YtajmniiiahhfaaaGreatDoorHD
set_option linter.unusedVariables false
set_option linter.unusedSimpArgs false
set_option maxRecDepth 100000
set_option maxHeartbeats 4000000
namespace Go.Hw
open Go
attribute [local irreducible] GO GOl GDp Val Fn Res CellsAt ValE Blk OwnS MapA OwnPf Has
open Go.Proofs (Tryz.prog)
section
variable {C : Ctx} {l : Sl} {h : Ro} {ty t ty' : TypeId} {pos : String} {aft : Array Edge} {gd : Option (Nat × Bool)} {dst : Option Tmp} {x y : Operand} {T : Ty}
theorem OV_xorN {m n : Nat} {p : Int} (hT : tyOf t C.ts = some T) (hx : evl l x = some (.int .i64 p)) (hp : p = (m : Int)) (hy : evl l y = some (.int .i64 (n : Int))) (hm : m < 512) (hn : n < 512) : OV C l [] h ⟨dst,.binOp .xor t x y ty',ty,pos,aft,gd⟩ (.int .i64 ((m ^^^ n : Nat) : Int)):=by
  subst hp
  refine OV_bin hT hx hy ?_
  have h1 : m ^^^ n < 512:=Nat.xor_lt_two_pow (n:=9) hm hn
  have e : (BitVec.ofInt 64 (m : Int) ^^^ BitVec.ofInt 64 (n : Int)).toNat = m ^^^ n:=by
    rw [BitVec.toNat_xor,BitVec.ofInt_natCast,BitVec.ofInt_natCast,BitVec.toNat_ofNat,BitVec.toNat_ofNat,Nat.mod_eq_of_lt (by omega),Nat.mod_eq_of_lt (by omega)]
  simp only [pvBin,if_true]
  show some (Value.int .i64 (IntKind.i64.wrap ((BitVec.ofInt 64 (m : Int) ^^^ BitVec.ofInt 64 (n : Int)).toNat : Int))) = _
  rw [e,i64_in _ ⟨by omega,by omega⟩]
end
theorem rotl_zero (x : B64) : rotl x 0 = x:=by
  unfold rotl
  have : x >>> (64 - 0) = 0#64:=by
    apply BitVec.eq_of_toNat_eq
    simp [BitVec.toNat_ushiftRight,Nat.shiftRight_eq_div_pow]
    exact x.isLt
  rw [this];simp
theorem rol_c (h : Ro) (x : B64) (n : Nat) (hn : n < 64) : Val Tryz.prog 271 #[u64V x,.int .i64 n] h (u64V (rotl x n)):=by
  refine Val_intro (args:=[_,_]) ts_ok Go.Proofs.Tryz.func271 rfl rfl fun w0 X0 => ?_
  have hm : (n : Int) % 64 = n:=by omega
  by_cases h0 : n = 0
  · subst h0
    rw [rotl_zero]
    repeat' (first|apply GO_seq|apply GO_region|apply GOl_nil|(apply GOl_ov;exact rfl;exact rfl;(first|(apply OV_remI;(iterate 3 exact rfl);omega;omega));exact QA)|(apply GOl_pv;(iterate 3 exact rfl))|(apply GO_cond;exact rfl;all_goals (intro hc;try simp only [hcS,reduceCtorEq] at hc;try (exfalso;omega)))|(apply GO_retV1;(iterate 3 exact rfl)))
    all_goals first|rfl|(exfalso;omega)|(exfalso;simp [eqI_eq] at hc;done)
  · repeat' (first|apply GO_seq|apply GO_skip|apply GO_region|apply GOl_nil|(apply GOl_ov;exact rfl;exact rfl;(first|(apply OV_remI;(iterate 3 exact rfl);omega;omega));exact QA)|(apply GP_ov;exact rfl;kernel_rfl;exact rfl;exact rfl;(first|(apply OV_or64;(iterate 3 exact rfl)));exact QA)|(apply GOl_pv;(iterate 3 exact rfl))|(apply GO_drawp (n:=4) [0,1,2,3,4,5,6,7,8] [(0,0),(1,0),(2,0),(3,0),(4,0),(5,0),(6,0),(7,0),(8,0)];kernel_rfl)|(apply GP_sub;exact rfl;kernel_rfl;(iterate 5 exact rfl);omega)|(apply GP_pv;exact rfl;kernel_rfl;(iterate 3 exact rfl))|(apply GP_ov;exact rfl;kernel_rfl;exact rfl;exact rfl;(first|(apply OV_shl64 (n:=n);exact rfl;exact rfl;exact hm)|(apply OV_shr64 (n:=64 - n);exact rfl;exact rfl;omega));exact QA)|(apply GP_done;kernel_rfl;exact rfl)|(apply GO_cond;exact rfl;all_goals (intro hc;try simp only [hcS,reduceCtorEq] at hc;try (exfalso;omega)))|(apply GO_retV1;(iterate 3 exact rfl)))
    all_goals first|rfl|(exfalso;omega)
theorem atI_c (h : Ro) (x y : Int) (hx : 0 ≤ x ∧ x ≤ 100) (hy : -5 ≤ y ∧ y ≤ 100) : Val Tryz.prog 270 #[.int .i64 x,.int .i64 y] h (.int .i64 (5 * ((y + 5) % 5) + (x + 5) % 5)):=by
  refine Val_intro (args:=[_,_]) ts_ok Go.Proofs.Tryz.func270 rfl rfl fun w0 X0 => ?_
  repeat' (first|apply GO_seq|apply GO_region|apply GOl_nil|(apply GOl_ov;exact rfl;exact rfl;(first|(apply OV_remI;(iterate 3 exact rfl);omega;omega)|(apply OV_mulI (p:=5);(iterate 3 exact rfl);omega));exact QA)|(apply GOl_add;(iterate 3 exact rfl);omega;exact rfl;exact rfl)|(apply GOl_pv;(iterate 3 exact rfl))|(apply GO_retV1;(iterate 3 exact rfl)))
  all_goals first|rfl
theorem at_c (h : Ro) (x y : Nat) (hx : x < 5) (hy : y < 5) : Val Tryz.prog 270 #[.int .i64 x,.int .i64 y] h (.int .i64 ((5 * y + x : Nat) : Int)):=by
  have:=atI_c h x y (by omega) (by omega)
  rwa [show 5 * (((y : Int) + 5) % 5) + ((x : Int) + 5) % 5 = ((5 * y + x : Nat) : Int) by omega] at this
theorem allOneN (l : List Nat) : allOne (l.map encN) = true:=by
  induction l with
  | nil => rfl
  | cons a r ih => exact ih
theorem allOneU (l : List B64) : allOne (l.map u64V) = true:=by
  induction l with
  | nil => rfl
  | cons a r ih => exact ih
theorem turnsR_c (h : Ro) : Val Tryz.prog 233 #[] h (.agg (turnL.map encN).toArray):=by
  refine Val_intro (args:=[]) ts_ok Go.Proofs.Tryz.func233 rfl rfl fun w0 X0 => ?_
  repeat' (first|apply GO_seq|apply GO_block|apply GO_region|apply GOl_nil|(apply GOl_pv;(iterate 3 exact rfl))|(apply GOl_to;(iterate 3 exact rfl);(first|(apply OpTo_store;(iterate 3 exact rfl);exact QR;(iterate 3 exact rfl);skip)|(apply OpTo_alloc;exact rfl;intro b;skip))))
  rename_i b0
  generalize b = b1
  refine GO_loopT (X:=Nat) (fun n => n ≤ 24) (fun n => 24 - n) (fun n => [(4,.int .i64 n),(2,.int .i64 ((xyT n).1 : Nat)),(3,.int .i64 ((xyT n).2 : Nat)),(1,.pointer (some ⟨b1,0,none⟩)),(0,.pointer (some ⟨b0,0,none⟩))])
    (fun n => [Blk b1 192 ((turnT n).map encN),Blk b0 192 ((turnT 0).map encN)]) (fun _ => h) 0 (by omega) QS QT rfl ?_
  rintro n hn ih
  by_cases hn2 : n < 24
  · have hxy:=xyT_lt n
    have hxy2 : (xyT (n + 1)) = ((xyT n).2,(2 * (xyT n).1 + 3 * (xyT n).2) % 5):=rfl
    have htu : (turnT (n + 1)).map encN = ((turnT n).map encN).set (5 * (xyT n).2 + (xyT n).1) (encN ((n + 1) * (n + 2) / 2 % 64)):=by rw [turnT,set_map]
    have hln : ((turnT n).map encN).length = 25:=by simp
    have hmul : (n + 1) * (n + 2) ≤ 25 * 26:=Nat.mul_le_mul (by omega) (by omega)
    have hmi : ((n : Int) + 1) * ((n : Int) + 2) = (((n + 1) * (n + 2) : Nat) : Int):=by push_cast;rfl
    generalize (n + 1) * (n + 2) = q at *
    generalize (xyT n).1 = x at *
    generalize (xyT n).2 = y at *
    obtain ⟨hx,hy⟩:=hxy
    have htv : (turnT (n + 1)).map encN = ((turnT n).map encN).set (5 * y + x) (.int .i64 (((n : Int) + 1) * ((n : Int) + 2) / 2 % 64)):=by
      rw [htu,hmi]
      have e : ((q / 2 % 64 : Nat) : Int) = (q : Int) / 2 % 64:=by omega
      unfold encN;rw [e]
    have hye : (((2 * x + 3 * y) % 5 : Nat) : Int) = (2 * (x : Int) + 3 * (y : Int)) % 5:=by omega
    have hat:=at_c h x y hx hy
    repeat' (first|apply GO_seq|apply GO_skip|apply GO_inBlock|apply GO_block|apply GO_region|apply GOl_nil|(apply GOl_ov;exact rfl;exact rfl;(first|(apply OV_mulI (p:=2);(iterate 3 exact rfl);omega)|(apply OV_mulI (p:=3);(iterate 3 exact rfl);omega)|(apply OV_mulI;(iterate 3 exact rfl);rw [hmi];omega)|(apply OV_quoI;(iterate 3 exact rfl);rw [hmi];omega;omega)|(apply OV_remI;(iterate 3 exact rfl);(first|omega|(rw [hmi];omega));omega));exact QA)|(apply GOl_add;(iterate 3 exact rfl);omega;exact rfl;exact rfl)|(apply GOl_pv;(iterate 3 exact rfl))|(apply GOl_ov;exact rfl;exact rfl;(first|(apply OV_idxA (j:=5 * y + x);(iterate 5 exact rfl);omega;omega));exact QA)|(apply GOl_to;(iterate 3 exact rfl);(first|(apply OpTo_val;exact rfl;exact has270;exact hat;skip)|(apply OpTo_stB (n:=5 * y + x) (cs':=(turnT (n + 1)).map encN);(iterate 3 exact rfl);exact QR;exact rfl;(rw [hln];omega);exact htv;exact rfl;exact rfl;skip)))|(apply GO_cond;exact rfl;all_goals (intro hc;try simp only [hcS,reduceCtorEq] at hc;try (exfalso;omega))))
    all_goals
      have h3:=ih (n + 1) (by omega) (by omega)
      rw [hxy2] at h3
      dsimp only at h3
      rw [hye] at h3
      refine GO_fit QS QT (h3)
  · have hn3 : n = 24:=by omega
    subst hn3
    clear ih
    have e1 : (turnT 24).map encN = turnL.map encN:=rfl
    have e2 : ((turnT 0).map encN).length = (turnL.map encN).length:=by rw [List.length_map,List.length_map];rfl
    have e3 : (turnL.map encN).length = 25:=by rw [List.length_map];rfl
    rw [e1]
    have e4:=allOneN turnL
    generalize turnL.map encN = TT at *
    generalize (turnT 0).map encN = T0 at *
    repeat' (first|apply GO_seq|apply GO_region|apply GOl_nil|(apply GO_exit;exact rfl)|(apply GOl_ov;exact rfl;exact rfl;(first|(apply OV_ldAll (b:=b1) (e:=192) (cs:=TT);(iterate 3 exact rfl);exact e3));exact QA)|(apply GOl_pv;(iterate 3 exact rfl))|(apply GOl_to;(iterate 3 exact rfl);(first|(apply OpTo_stAll (cs':=TT);(iterate 3 exact rfl);exact QR;exact e2;exact e3;exact e4;skip)))|(apply GO_cond;exact rfl;all_goals (intro hc;try simp only [hcS,reduceCtorEq] at hc;try (exfalso;omega))))
    all_goals exact GO_retV (rs:=[.cell 0 192]) (vs:=[.agg TT.toArray]) rfl rfl ⟨⟨_,rfl,Ld_blk rfl QM (pvPart_all e3)⟩,trivial⟩ rfl
def cS : Nat → List B64
  | 0 => List.replicate 168 0
  | n + 1 => (cS n).set n (BitVec.ofNat 64 (sT n % 2))
@[simp] theorem cS_len : ∀ n,(cS n).length = 168
  | 0 => by simp [cS]
  | n + 1 => by rw [cS,List.length_set,cS_len n]
theorem cS_get : ∀ (n k : Nat),k < n → n ≤ 168 → (cS n).getD k 0 = BitVec.ofNat 64 (sT k % 2)
  | 0,k,hk,_ => by omega
  | n + 1,k,hk,hn => by
    rw [cS]
    by_cases e : k = n
    · subst e
      have : k < (cS k).length:=by rw [cS_len];omega
      simp [List.getD,List.getElem?_set_self this]
    · have h1:=cS_get n k (by omega) (by omega)
      simp only [List.getD] at h1 ⊢
      rw [List.getElem?_set_ne (fun h => e h.symm)]
      exact h1
theorem u64_small {m : Nat} (h : m < 512) : u64V (BitVec.ofNat 64 m) = .int .u64 (m : Int):=by
  unfold u64V
  rw [BitVec.toNat_ofNat,Nat.mod_eq_of_lt (by omega)]
theorem constR_c (h : Ro) : Val Tryz.prog 234 #[] h (.agg (dgK.map u64V).toArray):=by
  refine Val_intro (args:=[]) ts_ok Go.Proofs.Tryz.func234 rfl rfl fun w0 X0 => ?_
  repeat' (first|apply GO_seq|apply GO_block|apply GO_region|apply GOl_nil|(apply GOl_pv;(iterate 3 exact rfl))|(apply GOl_to;(iterate 3 exact rfl);(first|(apply OpTo_store;(iterate 3 exact rfl);exact QR;(iterate 3 exact rfl);skip)|(apply OpTo_alloc;exact rfl;intro b;skip))))
  rename_i b0
  generalize b = b1
  refine GO_loopT (X:=Nat) (fun n => n ≤ 168) (fun n => 168 - n) (fun n => [(3,.int .i64 n),(2,.int .i64 (sT n : Nat)),(1,.pointer (some ⟨b1,0,none⟩)),(0,.pointer (some ⟨b0,0,none⟩))])
    (fun n => [Blk b1 260 ((cS n).map u64V),Blk b0 193 ((kT 0).map u64V)]) (fun _ => h) 0 (by omega) QS QT rfl ?_
  rintro n hn ih
  by_cases hn2 : n < 168
  · have hs:=sT_le n
    have hsn : sT (n + 1) = sNext (sT n):=rfl
    have htv : (cS (n + 1)).map u64V = ((cS n).map u64V).set n (.int .u64 ((sT n % 2 : Nat) : Int)):=by rw [cS,set_map,u64_small (by omega)]
    have hln : ((cS n).map u64V).length = 168:=by simp
    generalize sT n = s at *
    by_cases hbig : 2 * s > 255
    · have hsn2 : sNext s = (2 * s ^^^ 256) ^^^ 113:=by unfold sNext;rw [if_pos hbig,Nat.xor_assoc];rfl
      have hx9 : 2 * s ^^^ 256 < 512:=Nat.xor_lt_two_pow (n:=9) (by omega) (by omega)
      repeat' (first|apply GO_seq|apply GO_skip|apply GO_inBlock|apply GO_block|apply GO_region|apply GOl_nil|(apply GOl_ov;exact rfl;exact rfl;(first|(apply OV_mulI (p:=2);(iterate 3 exact rfl);omega)|(apply OV_and1 (n:=s);(iterate 3 exact rfl);omega)|(apply OV_convI;(iterate 4 exact rfl);exact wrap_nat64 (by omega))|(apply OV_xorN (m:=2 * s) (n:=256);exact rfl;exact rfl;omega;exact rfl;omega;omega)|(apply OV_xorN (m:=2 * s ^^^ 256) (n:=113);(iterate 4 exact rfl);exact hx9;omega));exact QA)|(apply GOl_add;(iterate 3 exact rfl);omega;exact rfl;exact rfl)|(apply GOl_pv;(iterate 3 exact rfl))|(apply GOl_ov;exact rfl;exact rfl;(first|(apply OV_idxA (j:=n);(iterate 5 exact rfl);(with_reducible exact rfl);omega));exact QA)|(apply GOl_to;(iterate 3 exact rfl);(first|(apply OpTo_stB (n:=n) (cs':=(cS (n + 1)).map u64V);(iterate 3 exact rfl);exact QR;exact rfl;(rw [hln];omega);exact htv;exact rfl;exact rfl;skip)))|(apply GO_cond;exact rfl;all_goals (intro hc;try simp only [hcS,reduceCtorEq] at hc;try (exfalso;omega))))
      all_goals first
        | (exfalso;omega)
        | (have h3:=ih (n + 1) (by omega) (by omega)
           rw [hsn,hsn2] at h3
           refine GO_fit QS QT (h3))
    · have hsn2 : sNext s = 2 * s:=by unfold sNext;rw [if_neg hbig]
      repeat' (first|apply GO_seq|apply GO_skip|apply GO_inBlock|apply GO_block|apply GO_region|apply GOl_nil|(apply GOl_ov;exact rfl;exact rfl;(first|(apply OV_mulI (p:=2);(iterate 3 exact rfl);omega)|(apply OV_and1 (n:=s);(iterate 3 exact rfl);omega)|(apply OV_convI;(iterate 4 exact rfl);exact wrap_nat64 (by omega)));exact QA)|(apply GOl_add;(iterate 3 exact rfl);omega;exact rfl;exact rfl)|(apply GOl_pv;(iterate 3 exact rfl))|(apply GOl_ov;exact rfl;exact rfl;(first|(apply OV_idxA (j:=n);(iterate 5 exact rfl);(with_reducible exact rfl);omega));exact QA)|(apply GOl_to;(iterate 3 exact rfl);(first|(apply OpTo_stB (n:=n) (cs':=(cS (n + 1)).map u64V);(iterate 3 exact rfl);exact QR;exact rfl;(rw [hln];omega);exact htv;exact rfl;exact rfl;skip)))|(apply GO_cond;exact rfl;all_goals (intro hc;try simp only [hcS,reduceCtorEq] at hc;try (exfalso;omega))))
      all_goals first
        | (exfalso;omega)
        | (have h3:=ih (n + 1) (by omega) (by omega)
           rw [hsn,hsn2,show ((2 * s : Nat) : Int) = 2 * (s : Int) by omega] at h3
           refine GO_fit QS QT (h3))
  · have hn3 : n = 168:=by omega
    subst hn3
    clear ih
    repeat' (first|apply GO_seq|apply GO_block|apply GO_region|apply GOl_nil|(apply GO_exit;exact rfl)|(apply GOl_pv;(iterate 3 exact rfl))|(apply GOl_to;(iterate 3 exact rfl);(first|(apply OpTo_store;(iterate 3 exact rfl);exact QR;(iterate 3 exact rfl);skip)|(apply OpTo_alloc;exact rfl;intro b;skip)))|(apply GO_cond;exact rfl;all_goals (intro hc;try simp only [hcS,reduceCtorEq] at hc;try (exfalso;omega))))
    generalize b = b4
    refine GO_loopT (X:=Nat) (fun i => i ≤ 24) (fun i => 24 - i) (fun i => [(5,.int .i64 i),(4,.pointer (some ⟨b4,0,none⟩)),(1,.pointer (some ⟨b1,0,none⟩)),(0,.pointer (some ⟨b0,0,none⟩))])
      (fun i => [Blk b4 193 ((kT i).map u64V),Blk b1 260 ((cS 168).map u64V),Blk b0 193 ((kT 0).map u64V)]) (fun _ => h) 0 (by omega) QS QT rfl ?_
    rintro i hi ih
    by_cases hi2 : i < 24
    · have hk0:=kT_set0 i hi2
      rw [← hk0]
      repeat' (first|apply GO_seq|apply GO_skip|apply GO_block|apply GO_region|apply GOl_nil|(apply GOl_pv;(iterate 3 exact rfl))|(apply GO_cond;exact rfl;all_goals (intro hc;try simp only [hcS,reduceCtorEq] at hc;try (exfalso;omega))))
      refine GO_loopT (X:=Nat) (fun j => j ≤ 7) (fun j => 7 - j) (fun j => [(6,.int .i64 j),(5,.int .i64 i),(4,.pointer (some ⟨b4,0,none⟩)),(1,.pointer (some ⟨b1,0,none⟩)),(0,.pointer (some ⟨b0,0,none⟩))])
        (fun j => [Blk b4 193 (((kT i).set i (kAcc i j)).map u64V),Blk b1 260 ((cS 168).map u64V),Blk b0 193 ((kT 0).map u64V)]) (fun _ => h) 0 (by omega) QS QT rfl ?_
      rintro j hj ih2
      by_cases hj2 : j < 7
      · have hg:=kT_get (i:=i) (j:=j) hi2
        have hst:=kT_step i j
        have hcg:=map_getU (l:=cS 168) (n:=7 * i + j) (by rw [cS_len];omega)
        rw [cS_get 168 (7 * i + j) (by omega) (by omega)] at hcg
        have hp2 : 2 ^ j ≤ 64:=Nat.le_trans (Nat.pow_le_pow_right (by omega) (show j ≤ 6 by omega)) (by decide)
        have hp1 : 1 ≤ 2 ^ j:=Nat.one_le_two_pow
        have hkl : (((kT i).set i (kAcc i j)).map u64V).length = 24:=by simp
        generalize BitVec.ofNat 64 (sT (7 * i + j) % 2) = cb at *
        repeat' (first|apply GO_seq|apply GO_skip|apply GO_inBlock|apply GO_block|apply GO_region|apply GOl_nil|(apply GP_ov;exact rfl;kernel_rfl;exact rfl;exact rfl;(first|(apply OV_mulI (p:=7);(iterate 3 exact rfl);omega)|(apply OV_or64;(iterate 3 exact rfl))|(apply OV_subU;(iterate 3 exact rfl);omega)|(apply OV_shl1;exact rfl;exact rfl;omega)|(apply OV_shl64 (n:=2 ^ j - 1);exact rfl;exact rfl;omega));exact QA)|(apply GOl_add;(iterate 3 exact rfl);omega;exact rfl;exact rfl)|(apply GOl_pv;(iterate 3 exact rfl))|(apply GO_drawp (n:=17) [0,1,2,3,4,5,6,7,8,9,10,11,12,13,14,15,16] [(0,0),(1,0),(2,0),(3,0),(4,0),(5,0),(6,0),(7,0),(8,0),(9,0),(10,0),(11,0),(12,0),(13,0),(14,0),(15,0),(16,1)];kernel_rfl)|(apply GP_add;exact rfl;kernel_rfl;(iterate 5 exact rfl);omega)|(apply GP_pv;exact rfl;kernel_rfl;(iterate 3 exact rfl))|(apply GP_ov;exact rfl;kernel_rfl;exact rfl;exact rfl;(first|(apply OV_idxA (j:=i);(iterate 5 exact rfl);(with_reducible exact rfl);omega)|(apply OV_idxA (j:=7 * i + j);(iterate 5 exact rfl);omega;omega)|(apply OV_ldB (b:=b4) (e:=193) (n:=i);(iterate 3 exact rfl);exact hg)|(apply OV_ldB (b:=b1) (e:=260) (n:=7 * i + j);(iterate 3 exact rfl);exact hcg));exact QA)|(apply GP_real;exact rfl;kernel_rfl;(iterate 3 exact rfl);(first|(apply OpTo_stB (n:=i) (cs':=((kT i).set i (kAcc i (j + 1))).map u64V);(iterate 3 exact rfl);exact QR;exact rfl;(rw [hkl];omega);exact hst;exact rfl;exact rfl;refine ⟨Le.refl _,QN,?_⟩)))|(apply GP_done;kernel_rfl;exact rfl)|(apply GO_cond;exact rfl;all_goals (intro hc;try simp only [hcS,reduceCtorEq] at hc;try (exfalso;omega))))
        all_goals first
          | (exfalso;omega)
          | (have h3:=ih2 (j + 1) (by omega) (by omega)
             refine GO_fit QS QT (h3))
      · have hj3 : j = 7:=by omega
        subst hj3
        clear ih2
        repeat' (first|apply GO_seq|apply GO_inBlock|apply GO_region|apply GOl_nil|(apply GO_exit;exact rfl)|(apply GOl_add;(iterate 3 exact rfl);omega;exact rfl;exact rfl)|(apply GOl_pv;(iterate 3 exact rfl))|(apply GO_cond;exact rfl;all_goals (intro hc;try simp only [hcS,reduceCtorEq] at hc;try (exfalso;omega))))
        have h3:=ih (i + 1) (by omega) (by omega)
        refine GO_fit QS QT (h3)
    · have hi3 : i = 24:=by omega
      subst hi3
      clear ih
      have e2 : ((kT 0).map u64V).length = (dgK.map u64V).length:=by rw [List.length_map,List.length_map];rfl
      have e3 : (dgK.map u64V).length = 24:=by rw [List.length_map,dgK,kT_len]
      have e4:=allOneU dgK
      show GO _ _ _ [Blk b4 193 (dgK.map u64V),_,_] _ _
      generalize dgK.map u64V = KK at *
      generalize (kT 0).map u64V = K0 at *
      repeat' (first|apply GO_seq|apply GO_region|apply GOl_nil|(apply GO_exit;exact rfl)|(apply GOl_ov;exact rfl;exact rfl;(first|(apply OV_ldAll (b:=b4) (e:=193) (cs:=KK);(iterate 3 exact rfl);exact e3));exact QA)|(apply GOl_pv;(iterate 3 exact rfl))|(apply GOl_to;(iterate 3 exact rfl);(first|(apply OpTo_stAll (cs':=KK);(iterate 3 exact rfl);exact QR;exact e2;exact e3;exact e4;skip)))|(apply GO_cond;exact rfl;all_goals (intro hc;try simp only [hcS,reduceCtorEq] at hc;try (exfalso;omega))))
      all_goals exact GO_retV (rs:=[.cell 0 193]) (vs:=[.agg KK.toArray]) rfl rfl ⟨⟨_,rfl,Ld_blk rfl QM (pvPart_all e3)⟩,trivial⟩ rfl
end Go.Hw

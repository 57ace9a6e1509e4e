import Derived.Test.YtajmniiiahhfaaaGreatDoorUR5
import Derived.Test.YtajmniiiahhfaaaGreatDoorGB
set_option linter.unusedVariables false
set_option linter.unusedSimpArgs false
set_option maxRecDepth 100000
set_option maxHeartbeats 4000000
namespace Go.Hw
open Go
attribute [local irreducible] GO GOl GDp Val Fn Res CellsAt ValE Blk OwnS MapA OwnPf Has
open Go.Proofs (Tryz.prog)
theorem incrS_c (h : Ro) (A : Option Addr) (n c : Nat) (ks : List (List UInt8)) (hK : SlOf encS7 1 h A n ks) (hp : ks.Pairwise fun a b => Op.bytesLess a b = true) (hn : n ≤ 1000000) : Val Tryz.prog 273 #[.slice A n c] h (.bool true):=by
  refine Val_intro (args:=[_]) ts_ok Go.Proofs.Tryz.func273 rfl rfl fun w0 X0 => ?_
  have hlen:=hK.len
  repeat' (first|apply GO_seq|apply GO_block|apply GO_region|apply GOl_nil|(apply GOl_pv;(iterate 3 exact rfl)))
  refine GO_loopT (X:=Nat) (fun k => 1 ≤ k ∧ (k ≤ n ∨ k = 1)) (fun k => n + 1 - k) (fun k => [(3,.int .i64 k),(0,.slice A n c)]) (fun _ => []) (fun _ => h) 1 ⟨by omega,by omega⟩ QS QT rfl ?_
  rintro k ⟨hk1,hk2⟩ ih
  by_cases hkn2 : k < n
  · have a1:=hK.addrD hkn2
    have c1:=hK.cellsD [] hkn2
    have c2:=hK.cellsD [] (show k - 1 < n by omega)
    have hls:=less_at hp hk1 (by omega)
    generalize ks.getD k [] = k1 at *
    generalize ks.getD (k - 1) [] = k0 at *
    have hkq : k - 1 < n:=by omega
    have hi1 : ((k : Int) - 1) = ((k - 1 : Nat) : Int):=by omega
    repeat' (first|apply GO_seq|apply GO_skip|apply GO_inBlock|apply GO_block|apply GO_region|apply GOl_nil|(apply GOl_add;(iterate 3 exact rfl);omega;exact rfl;exact rfl)|(apply GOl_pv;(iterate 3 exact rfl))|(apply GO_drawp (n:=4) [0,1,2,3,4,5,6,7,8,9] [(0,0),(1,0),(2,0),(3,0),(4,0),(5,0),(6,0),(7,0),(8,0),(9,0)];kernel_rfl)|(apply GP_sub;exact rfl;kernel_rfl;(iterate 5 exact rfl);omega)|(apply GP_pv;exact rfl;kernel_rfl;(iterate 3 exact rfl))|(apply GP_ov;exact rfl;kernel_rfl;exact rfl;exact rfl;(first|(apply OV_idxS (j:=k);(iterate 5 exact rfl);exact a1;(with_reducible exact rfl);exact hkn2)|(apply OV_idxS (j:=k - 1);(iterate 5 exact rfl);exact a1;exact hi1;exact hkq)|(apply OV_load;exact rfl;exact Lv_ro rfl c1 rfl)|(apply OV_load;exact rfl;exact Lv_ro rfl c2 rfl));exact QA)|(apply GP_done;kernel_rfl;exact rfl)|(apply GO_cond;exact rfl;all_goals (intro hc;try simp only [hcS,reduceCtorEq] at hc;try (exfalso;omega))))
    all_goals first
      | (exfalso;rw [str_toList,str_toList,hls] at *;simp at *;done)
      | (have h3:=ih (k + 1) ⟨by omega,by omega⟩ (by omega)
         refine GO_fit QS QT (h3))
  · clear ih
    repeat' (first|apply GO_seq|apply GO_region|apply GOl_nil|(apply GO_exit;exact rfl)|(apply GOl_pv;(iterate 3 exact rfl))|(apply GO_cond;exact rfl;all_goals (intro hc;try simp only [hcS,reduceCtorEq] at hc;try (exfalso;omega)))|(apply GO_retV1;(iterate 3 exact rfl)))
    all_goals rfl
def FrOk (d : Nat) : Prop:=∀ (h : Ro) (v : Va) (bs : List UInt8),VEnc d h v bs → Res Tryz.prog 241 #[vaV v] h fun u _ => u = .bool true
theorem formedR1_c (h : Ro) (m : Int) : Res Tryz.prog 241 #[vaV ⟨1,m,[],sli0,sli0⟩] h fun u _ => u = .bool true:=by
  refine Res_intro (args:=[_]) ts_ok Go.Proofs.Tryz.func241 rfl rfl fun w0 X0 => ?_
  have hs:=strNil
  repeat' (first|apply GO_seq|apply GO_block|apply GO_region|apply GOl_nil|(apply GOl_unwanted;exact rfl;exact rfl)|(apply GOl_pv;(iterate 3 exact rfl))|(apply GOl_load;exact rfl;exact Ld_blk rfl QM rfl;exact rfl;exact rfl)|(apply GOl_to;(iterate 3 exact rfl);(first|(apply OpTo_box;exact rfl;intro b;skip)))|(apply GO_cond;exact rfl;all_goals (intro hc;try simp only [hcS,reduceCtorEq] at hc;try (exfalso;omega)))|(apply GOl_split;exact rfl;exact rfl;all_goals (intro hc;try simp only [hcS,reduceCtorEq] at hc;try (exfalso;omega))))
  all_goals first
    | (exfalso;simp_all [sli0];done)
    | (exact GO_retR1 rfl rfl rfl (by simp [eqI_eq,sli0]))
theorem formedR2_c (h : Ro) (s : List UInt8) : Res Tryz.prog 241 #[vaV ⟨2,0,s,sli0,sli0⟩] h fun u _ => u = .bool true:=by
  refine Res_intro (args:=[_]) ts_ok Go.Proofs.Tryz.func241 rfl rfl fun w0 X0 => ?_
  repeat' (first|apply GO_seq|apply GO_block|apply GO_region|apply GOl_nil|(apply GOl_unwanted;exact rfl;exact rfl)|(apply GOl_pv;(iterate 3 exact rfl))|(apply GOl_load;exact rfl;exact Ld_blk rfl QM rfl;exact rfl;exact rfl)|(apply GOl_to;(iterate 3 exact rfl);(first|(apply OpTo_box;exact rfl;intro b;skip)))|(apply GO_cond;exact rfl;all_goals (intro hc;try simp only [hcS,reduceCtorEq] at hc;try (exfalso;omega)))|(apply GOl_split;exact rfl;exact rfl;all_goals (intro hc;try simp only [hcS,reduceCtorEq] at hc;try (exfalso;omega))))
  all_goals first
    | (exfalso;simp_all [sli0];done)
    | (exact GO_retR1 rfl rfl rfl (by simp [eqI_eq,sli0]))
theorem formedR3_c (d : Nat) (ih0 : FrOk d) (h : Ro) (k : Int) (hk : k = 3 ∨ k = 4) (L K : Sli) (vs : List Va) (bss : List (List UInt8)) (hL : SlOf vaC 5 h L.A L.n vs) (hz : Zip7 (VEnc d h) vs bss) (hn : L.n ≤ 1000000) (ks : List (List UInt8)) (hK : SlOf encS7 1 h K.A K.n ks) (hp : ks.Pairwise fun a b => Op.bytesLess a b = true) (hkn : K.n ≤ 1000000) (h3 : k = 3 → K.n = 0) (h4 : k = 4 → K.n = L.n) :
    Res Tryz.prog 241 #[vaV ⟨k,0,[],L,K⟩] h fun u _ => u = .bool true:=by
  refine Res_intro (args:=[_]) ts_ok Go.Proofs.Tryz.func241 rfl rfl fun w0 X0 => ?_
  have hs:=strNil
  have hlen:=hL.len
  have hinc:=incrS_c h K.A K.n K.c ks hK hp hkn
  rcases hk with rfl|rfl
  · have h3:=h3 rfl
    clear h4
    repeat' (first|apply GO_seq|apply GO_skip|apply GO_inBlock|apply GO_block|apply GO_region|apply GOl_nil|(apply GOl_pv;(iterate 3 exact rfl))|(apply GOl_load;exact rfl;exact Ld_blk rfl QM rfl;exact rfl;exact rfl)|(apply GOl_to;(iterate 3 exact rfl);(first|(apply OpTo_box;exact rfl;intro b;skip)))|(apply GO_cond;exact rfl;all_goals (intro hc;try simp only [hcS,reduceCtorEq] at hc;try (exfalso;omega))))
    all_goals (try (exfalso;omega))
    generalize b = b0
    refine GO_loopT (X:=Nat × Ro) (fun x => x.1 ≤ L.n ∧ Le h x.2) (fun x => L.n - x.1) (fun x => [(3,.int .i64 x.1),(1,.pointer (some ⟨b0,0,none⟩))]) (fun _ => [Blk b0 146 (vaC ⟨3,0,[],L,K⟩)]) (fun x => x.2) (0,h) ⟨by dsimp only;omega,Le.refl _⟩ QS QT rfl ?_
    rintro ⟨j,hh⟩ ⟨hj,hle⟩ ih
    dsimp only at hj hle ih ⊢
    by_cases hjn : j < L.n
    · have a1:=hL.addrD hjn
      have cc:=(hL.cellsD va0 hjn).le hle
      have hv2:=(zip_at hz (show j < vs.length by omega)).le hle
      generalize vs.getD j va0 = u at *
      generalize bss.getD j [] = bb at *
      have hcon:=ih0 hh u bb hv2
      repeat' (first|apply GO_seq|apply GO_skip|apply GO_inBlock|apply GO_block|apply GO_region|apply GOl_nil|(apply GOl_add;(iterate 3 exact rfl);omega;exact rfl;exact rfl)|(apply GOl_pv;(iterate 3 exact rfl))|(apply GOl_load;exact rfl;exact Ld_blk rfl QM rfl;exact rfl;exact rfl)|(apply GOl_ov;exact rfl;exact rfl;(first|(apply OV_idxS (j:=j);(iterate 5 exact rfl);exact a1;(with_reducible exact rfl);exact hjn)|(apply OV_load;exact rfl;exact Lv_ro rfl cc rfl));exact QA)|(apply GOl_to;(iterate 3 exact rfl);(first|(apply OpTo_res;exact rfl;exact has241;exact hcon;rintro v1 h1 hle1 rfl;skip)))|(apply GO_cond;exact rfl;all_goals (intro hc;try simp only [hcS,reduceCtorEq] at hc;try (exfalso;omega))))
      have h3:=ih (j + 1,h1) ⟨by dsimp only;omega,hle.trans hle1⟩ (by dsimp only;omega)
      dsimp only at h3
      refine GO_fit QS QT (h3)
    · clear ih
      repeat' (first|apply GO_seq|apply GO_region|apply GOl_nil|(apply GO_exit;exact rfl)|(apply GOl_pv;(iterate 3 exact rfl))|(apply GOl_load;exact rfl;exact Ld_blk rfl QM rfl;exact rfl;exact rfl)|(apply GO_cond;exact rfl;all_goals (intro hc;try simp only [hcS,reduceCtorEq] at hc;try (exfalso;omega)))|(apply GOl_split;exact rfl;exact rfl;all_goals (intro hc;try simp only [hcS,reduceCtorEq] at hc;try (exfalso;omega))))
      all_goals first
        | (exfalso;simp_all [sli0];done)
        | (exact GO_retR1 rfl rfl rfl (congrArg Value.bool strNil))
  · have h4:=h4 rfl
    clear h3
    repeat' (first|apply GO_seq|apply GO_skip|apply GO_inBlock|apply GO_block|apply GO_region|apply GOl_nil|(apply GOl_pv;(iterate 3 exact rfl))|(apply GOl_load;exact rfl;exact Ld_blk rfl QM rfl;exact rfl;exact rfl)|(apply GOl_to;(iterate 3 exact rfl);(first|(apply OpTo_box;exact rfl;intro b;skip)|(apply OpTo_val;exact rfl;exact has273;exact hinc;skip)))|(apply GO_cond;exact rfl;all_goals (intro hc;try simp only [hcS,reduceCtorEq] at hc;try (exfalso;omega)))|(apply GOl_split;exact rfl;exact rfl;all_goals (intro hc;try simp only [hcS,reduceCtorEq] at hc;try (exfalso;omega))))
    all_goals (try (exfalso;omega))
    generalize b = b0
    refine GO_loopT (X:=Nat × Ro) (fun x => x.1 ≤ L.n ∧ Le h x.2) (fun x => L.n - x.1) (fun x => [(3,.int .i64 x.1),(1,.pointer (some ⟨b0,0,none⟩))]) (fun _ => [Blk b0 146 (vaC ⟨4,0,[],L,K⟩)]) (fun x => x.2) (0,h) ⟨by dsimp only;omega,Le.refl _⟩ QS QT rfl ?_
    rintro ⟨j,hh⟩ ⟨hj,hle⟩ ih
    dsimp only at hj hle ih ⊢
    by_cases hjn : j < L.n
    · have a1:=hL.addrD hjn
      have cc:=(hL.cellsD va0 hjn).le hle
      have hv2:=(zip_at hz (show j < vs.length by omega)).le hle
      generalize vs.getD j va0 = u at *
      generalize bss.getD j [] = bb at *
      have hcon:=ih0 hh u bb hv2
      repeat' (first|apply GO_seq|apply GO_skip|apply GO_inBlock|apply GO_block|apply GO_region|apply GOl_nil|(apply GOl_add;(iterate 3 exact rfl);omega;exact rfl;exact rfl)|(apply GOl_pv;(iterate 3 exact rfl))|(apply GOl_load;exact rfl;exact Ld_blk rfl QM rfl;exact rfl;exact rfl)|(apply GOl_ov;exact rfl;exact rfl;(first|(apply OV_idxS (j:=j);(iterate 5 exact rfl);exact a1;(with_reducible exact rfl);exact hjn)|(apply OV_load;exact rfl;exact Lv_ro rfl cc rfl));exact QA)|(apply GOl_to;(iterate 3 exact rfl);(first|(apply OpTo_res;exact rfl;exact has241;exact hcon;rintro v1 h1 hle1 rfl;skip)))|(apply GO_cond;exact rfl;all_goals (intro hc;try simp only [hcS,reduceCtorEq] at hc;try (exfalso;omega))))
      have h3:=ih (j + 1,h1) ⟨by dsimp only;omega,hle.trans hle1⟩ (by dsimp only;omega)
      dsimp only at h3
      refine GO_fit QS QT (h3)
    · clear ih
      repeat' (first|apply GO_seq|apply GO_region|apply GOl_nil|(apply GO_exit;exact rfl)|(apply GOl_pv;(iterate 3 exact rfl))|(apply GOl_load;exact rfl;exact Ld_blk rfl QM rfl;exact rfl;exact rfl)|(apply GO_cond;exact rfl;all_goals (intro hc;try simp only [hcS,reduceCtorEq] at hc;try (exfalso;omega)))|(apply GOl_split;exact rfl;exact rfl;all_goals (intro hc;try simp only [hcS,reduceCtorEq] at hc;try (exfalso;omega))))
      all_goals first
        | (exfalso;simp_all [sli0];done)
        | (exact GO_retR1 rfl rfl rfl (congrArg Value.bool strNil))
theorem fr_ok : ∀ d,FrOk d
  | 0 => fun h v bs hv => hv.elim
  | d + 1 => fun h v bs hv => by
    rcases hv with ⟨m,rfl,hm,rfl⟩|⟨s,rfl,rfl⟩|⟨L,vs,bss,rfl,e2,e3,e4,rfl⟩|⟨L,K,vs,bss,ks,rfl,e2,e3,e4,e5,e6,e7,rfl⟩
    · exact formedR1_c h m
    · exact formedR2_c h s
    · exact formedR3_c d (fr_ok d) h 3 (.inl rfl) L sli0 vs bss e2 e3 e4 [] SlOf.nil .nil (by simp [sli0]) (fun _ => rfl) (fun e => by cases e)
    · have h1:=e2.len
      have h2:=e4.len
      exact formedR3_c d (fr_ok d) h 4 (.inr rfl) L K vs bss e2 e3 e7 ks e4 e6 (by omega) (fun e => by cases e) (fun _ => by omega)
def DpOk (d : Nat) : Prop:=∀ (h : Ro) (v : Va) (bs : List UInt8),VEnc d h v bs → Res Tryz.prog 242 #[vaV v] h fun u _ => ∃ m : Int,u = .int .i64 m ∧ 0 ≤ m ∧ m ≤ d
theorem depth_leaf (h : Ro) (v : Va) (hk : v.k = 1 ∨ v.k = 2) : Res Tryz.prog 242 #[vaV v] h fun u _ => u = .int .i64 0:=by
  refine Res_intro (args:=[_]) ts_ok Go.Proofs.Tryz.func242 rfl rfl fun w0 X0 => ?_
  obtain ⟨vk,vn,vs,vL,vK⟩:=v
  dsimp only at hk
  rcases hk with rfl|rfl
  · repeat' (first|apply GO_seq|apply GO_region|apply GOl_nil|(apply GOl_unwanted;exact rfl;exact rfl)|(apply GOl_pv;(iterate 3 exact rfl))|(apply GOl_load;exact rfl;exact Ld_blk rfl QM rfl;exact rfl;exact rfl)|(apply GOl_to;(iterate 3 exact rfl);(first|(apply OpTo_box;exact rfl;intro b;skip)))|(apply GO_cond;exact rfl;all_goals (intro hc;try simp only [hcS,reduceCtorEq] at hc;try (exfalso;omega)))|(apply GOl_split;exact rfl;exact rfl;all_goals (intro hc;try simp only [hcS,reduceCtorEq] at hc;try (exfalso;omega))))
    all_goals first
      | (exfalso;simp at *;done)
      | (exact GO_retR1 rfl rfl rfl rfl)
  · repeat' (first|apply GO_seq|apply GO_region|apply GOl_nil|(apply GOl_pv;(iterate 3 exact rfl))|(apply GOl_load;exact rfl;exact Ld_blk rfl QM rfl;exact rfl;exact rfl)|(apply GOl_to;(iterate 3 exact rfl);(first|(apply OpTo_box;exact rfl;intro b;skip)))|(apply GO_cond;exact rfl;all_goals (intro hc;try simp only [hcS,reduceCtorEq] at hc;try (exfalso;omega)))|(apply GOl_split;exact rfl;exact rfl;all_goals (intro hc;try simp only [hcS,reduceCtorEq] at hc;try (exfalso;omega))))
    all_goals first
      | (exfalso;simp at *;done)
      | (exact GO_retR1 rfl rfl rfl rfl)
theorem depth_node (d : Nat) (ih0 : DpOk d) (h : Ro) (v : Va) (hk : v.k = 3 ∨ v.k = 4) (vs : List Va) (bss : List (List UInt8)) (hL : SlOf vaC 5 h v.L.A v.L.n vs) (hz : Zip7 (VEnc d h) vs bss) (hn : v.L.n ≤ 1000000) (hd : d ≤ 1000) :
    Res Tryz.prog 242 #[vaV v] h fun u _ => ∃ m : Int,u = .int .i64 m ∧ 0 ≤ m ∧ m ≤ (d + 1 : Nat):=by
  refine Res_intro (args:=[_]) ts_ok Go.Proofs.Tryz.func242 rfl rfl fun w0 X0 => ?_
  have hlen:=hL.len
  obtain ⟨vk,vn,vss,vL,vK⟩:=v
  dsimp only at hk hL hn hlen
  have hk3 : ¬ vk = 1 ∧ ¬ vk = 2:=by omega
  repeat' (first|apply GO_seq|apply GO_skip|apply GO_block|apply GO_region|apply GOl_nil|(apply GOl_pv;(iterate 3 exact rfl))|(apply GOl_load;exact rfl;exact Ld_blk rfl QM rfl;exact rfl;exact rfl)|(apply GOl_to;(iterate 3 exact rfl);(first|(apply OpTo_box;exact rfl;intro b;skip)))|(apply GO_cond;exact rfl;all_goals (intro hc;try simp only [hcS,reduceCtorEq] at hc;try (exfalso;omega)))|(apply GOl_split;exact rfl;exact rfl;all_goals (intro hc;try simp only [hcS,reduceCtorEq] at hc;try (exfalso;omega))))
  all_goals (try (exfalso;omega))
  all_goals (try (exfalso;simp [eqI_eq,hk3] at *;done))
  generalize b = b0
  refine GO_loopT (X:=Nat × Int × Ro) (fun x => x.1 ≤ vL.n ∧ 0 ≤ x.2.1 ∧ x.2.1 ≤ d ∧ Le h x.2.2) (fun x => vL.n - x.1) (fun x => [(4,.int .i64 x.1),(3,.int .i64 x.2.1),(1,.pointer (some ⟨b0,0,none⟩))]) (fun _ => [Blk b0 146 (vaC ⟨vk,vn,vss,vL,vK⟩)]) (fun x => x.2.2) (0,0,h) ⟨by dsimp only;omega,by dsimp only;omega,by dsimp only;omega,Le.refl _⟩ QS QT rfl ?_
  rintro ⟨j,m0,hh⟩ ⟨hj,hm1,hm2,hle⟩ ih
  dsimp only at hj hm1 hm2 hle ih ⊢
  by_cases hjn : j < vL.n
  · have a1:=hL.addrD hjn
    have cc:=(hL.cellsD va0 hjn).le hle
    have hv2:=(zip_at hz (show j < vs.length by omega)).le hle
    generalize vs.getD j va0 = u at *
    generalize bss.getD j [] = bb at *
    have hcon:=ih0 hh u bb hv2
    repeat' (first|apply GO_seq|apply GO_skip|apply GO_inBlock|apply GO_block|apply GO_region|apply GOl_nil|(apply GOl_add;(iterate 3 exact rfl);omega;exact rfl;exact rfl)|(apply GOl_pv;(iterate 3 exact rfl))|(apply GOl_load;exact rfl;exact Ld_blk rfl QM rfl;exact rfl;exact rfl)|(apply GOl_ov;exact rfl;exact rfl;(first|(apply OV_idxS (j:=j);(iterate 5 exact rfl);exact a1;(with_reducible exact rfl);exact hjn)|(apply OV_load;exact rfl;exact Lv_ro rfl cc rfl));exact QA)|(apply GOl_to;(iterate 3 exact rfl);(first|(apply OpTo_res;exact rfl;exact has242;exact hcon;rintro v1 h1 hle1 ⟨m,rfl,q1,q2⟩;skip)))|(apply GO_cond;exact rfl;all_goals (intro hc;try simp only [hcS,reduceCtorEq] at hc;try (exfalso;omega))))
    have hmx : 0 ≤ max m0 m ∧ max m0 m ≤ d:=by rw [Int.max_def];split <;> omega
    have h3:=ih (j + 1,max m0 m,h1) ⟨by dsimp only;omega,hmx.1,hmx.2,hle.trans hle1⟩ (by dsimp only;omega)
    dsimp only at h3
    refine GO_fit QS QT (h3)
  · clear ih
    repeat' (first|apply GO_seq|apply GO_region|apply GOl_nil|(apply GO_exit;exact rfl)|(apply GOl_add;(iterate 3 exact rfl);omega;exact rfl;exact rfl)|(apply GOl_pv;(iterate 3 exact rfl))|(apply GOl_load;exact rfl;exact Ld_blk rfl QM rfl;exact rfl;exact rfl)|(apply GO_cond;exact rfl;all_goals (intro hc;try simp only [hcS,reduceCtorEq] at hc;try (exfalso;omega))))
    all_goals exact GO_retR1 rfl rfl rfl ⟨m0 + 1,rfl,by omega,by omega⟩
theorem dp_ok : ∀ d,d ≤ 1000 → DpOk d
  | 0,_ => fun h v bs hv => hv.elim
  | d + 1,hd => fun h v bs hv => by
    rcases hv with ⟨m,rfl,hm,rfl⟩|⟨s,rfl,rfl⟩|⟨L,vs,bss,rfl,e2,e3,e4,rfl⟩|⟨L,K,vs,bss,ks,rfl,e2,e3,e4,e5,e6,e7,rfl⟩
    · exact (depth_leaf h _ (.inl rfl)).mono fun u _ _ e => ⟨0,e,by omega,by omega⟩
    · exact (depth_leaf h _ (.inr rfl)).mono fun u _ _ e => ⟨0,e,by omega,by omega⟩
    · exact depth_node d (dp_ok d (by omega)) h _ (.inl rfl) vs bss e2 e3 e4 (by omega)
    · exact depth_node d (dp_ok d (by omega)) h _ (.inr rfl) vs bss e2 e3 e7 (by omega)
theorem checkVR_c (h : Ro) (d : Nat) (hd : d ≤ 16) (v : Va) (bs : List UInt8) (hv : VEnc d h v bs) : Res Tryz.prog 212 #[vaV v] h fun u _ => u = .int .i64 0:=by
  refine Res_intro (args:=[_]) ts_ok Go.Proofs.Tryz.func212 rfl rfl fun w0 X0 => ?_
  repeat' (first|apply GO_seq|apply GO_skip|apply GO_region|apply GOl_nil|(apply GOl_pv;(iterate 3 exact rfl))|(apply GOl_load;exact rfl;exact Ld_blk rfl QM rfl;exact rfl;exact rfl)|(apply GOl_to;(iterate 3 exact rfl);(first|(apply OpTo_box;exact rfl;intro b;skip)|(apply OpTo_res;exact rfl;exact has241;exact fr_ok d _ v bs (hv.le (by first|exact Le.refl _|assumption|(repeat (first|assumption|(apply Le.trans;assumption)))));rintro v1 h1 hle1 rfl;skip)|(apply OpTo_res;exact rfl;exact has242;exact dp_ok d (by omega) _ v bs (hv.le (by first|exact Le.refl _|assumption|(repeat (first|assumption|(apply Le.trans;assumption)))));rintro v2 h2 hle2 ⟨m,rfl,q1,q2⟩;skip)))|(apply GO_cond;exact rfl;all_goals (intro hc;try simp only [hcS,reduceCtorEq] at hc;try (exfalso;omega))))
  all_goals first
    | (exfalso;omega)
    | (exact GO_retR1 rfl rfl rfl rfl)
end Go.Hw

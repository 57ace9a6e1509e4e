import Derived.Test.YtgbamiehiokacaaGreatDoorRC
import Derived.Test.YtgbamiehiokacaaGreatDoorHwZe
import Derived.Test.YtgbamiehiokacaaGreatDoorGB
import Derived.Test.YtgbamiehiokacaaGreatDoorHwZf
set_option linter.unusedVariables false
set_option linter.unusedSimpArgs false
set_option maxRecDepth 100000
set_option maxHeartbeats 4000000
namespace Go.Hw
open Go
attribute [local irreducible] GO GOl GDp Val Fn Res CellsAt ValE Blk OwnS MapA OwnPf Has
open Go.Proofs (Tryz.prog)
section
variable {C : Ctx} {ds : List Deferred} {l : Sl} {Es : List Asn} {h : Ro} {K : List Item}
theorem Td {f : Bool} {e : TypeId} {v : Value} {n : Nat} {l8 : List UInt8} {Es' : List Asn} (hn : l8.length = n) (hT : Take Es (OwnPf f e v n (l8.flatMap encB)) Es')
 (g : ∀ A c h',Le h h' → v = .slice A n c → n ≤ c → SlOf encB 1 h' A n l8 → GO C ds l Es' h' K) : GO C ds l Es h K :=
 Gw hT fun D h' hle hA => by
  obtain ⟨A,c,e1,e2,e3⟩:=Wa hn hA
  exact g A c h' hle e1 e2 e3
end
theorem dec_len : ∀ (k u : Nat),u < 10 ^ (k + 1) → (Lib.decDigits u).length ≤ k + 1
 | 0,u,h => by
   rw [Lib.decDigits,dif_pos (by simpa using h)];simp
 | k + 1,u,h => by
   rw [Lib.decDigits]
   split
   · simp
   · rw [List.length_append]
     have:=dec_len k (u / 10) (by rw [Nat.pow_succ] at h;omega)
     simp;omega
theorem Ia {u : Nat} (h : u ≤ 18446744073709551615) : (Lib.decDigits u).length ≤ 20:=dec_len 19 u (by omega)
def digs : List UInt8:=[48,49,50,51,52,53,54,55,56,57]
theorem digs_at : ∀ d,d < 10 → (digs.take (d + 1)).drop d = [UInt8.ofNat (48 + d)]:=by decide
theorem Afa : ∀ (u : Nat),u ≤ 18446744073709551615 → ∀ (h : Ro),Val Tryz.prog 370 #[.int .u64 (u : Int)] h (.string (str (Lib.decDigits u))):=by
 intro u
 induction u using Nat.strongRecOn with
 | _ u IH =>
   intro hu h
   refine Au (args:=[_]) ts_ok Go.Proofs.Tryz.func370 rfl rfl fun w0 X0 => ?_
   have hd:=digs_at (u % 10) (by omega)
   by_cases h10 : u < 10
   · have e : Lib.decDigits u = (digs.take (u % 10 + 1)).drop (u % 10):=by rw [hd,Lib.decDigits,dif_pos h10,Nat.mod_eq_of_lt h10]
     rw [e]
     repeat' (first|apply Ad|apply Aa|apply Ab|(apply Wi;(iterate 5 exact J))|(apply Tc;(iterate 3 exact J);omega;exact J;exact J)|(apply Ac;(iterate 3 exact J))|(apply Bc;exact J;exact J;(first|(apply Qq (s:=digs) (lo:=u % 10) (hi:=u % 10 + 1);(iterate 6 exact J);omega;omega;(show u % 10 + 1 ≤ 10;omega)));exact QA)|(apply Af;exact J;all_goals (intro hc;try simp only [hcS,reduceCtorEq] at hc;try (exfalso;omega)))|(apply Av;(iterate 3 exact J)))
     all_goals first|rfl|(exfalso;omega)
   · have ih:=fun h => IH (u / 10) (by omega) (by omega) h
     have hl:=Ia (u:=u / 10) (by omega)
     have e : Lib.decDigits u = Lib.decDigits (u / 10) ++ (digs.take (u % 10 + 1)).drop (u % 10):=by
      rw [hd];conv => lhs;rw [Lib.decDigits,dif_neg h10]
     have hl2 : ((digs.take (u % 10 + 1)).drop (u % 10)).length = 1:=by rw [hd];rfl
     rw [e]
     clear e hd
     repeat' (first|apply Ad|apply Ap|apply Aa|apply Ab|(apply Wi;(iterate 5 exact J))|(apply GOl_quo10;(iterate 3 exact J);exact hu;exact J;exact J)|(apply Tc;(iterate 3 exact J);omega;exact J;exact J)|(apply Ac;(iterate 3 exact J))|(apply Bc;exact J;exact J;(first|(apply Qq (s:=digs) (lo:=u % 10) (hi:=u % 10 + 1);(iterate 6 exact J);omega;omega;(show u % 10 + 1 ≤ 10;omega))|(apply Ic;(iterate 3 exact J);omega));exact QA)|(apply Aj;(iterate 3 exact J);(first|(apply Ai;exact J;exact Zn;exact ih _;skip)))|(apply Af;exact J;all_goals (intro hc;try simp only [hcS,reduceCtorEq] at hc;try (exfalso;omega)))|(apply Av;(iterate 3 exact J)))
     all_goals first|rfl|(exfalso;omega)
theorem Vl (n : Int) (h1 : 0 ≤ n) (h2 : n ≤ 18446744073709551615) (h : Ro) : Val Tryz.prog 370 #[.int .u64 n] h (.string (str (Lib.decDigits n.toNat))):=by
 have:=Afa n.toNat (by omega) h
 rwa [Int.toNat_of_nonneg h1] at this
theorem Zi {n : Int} (h : n < 0) : Lib.itoa n = 45 :: Lib.decDigits (0 - (n + 1) + 1).toNat:=by
 unfold Lib.itoa
 rw [if_pos h,show n.natAbs = (0 - (n + 1) + 1).toNat by omega]
theorem Wy {n : Int} (h : 0 ≤ n) : Lib.itoa n = Lib.decDigits n.toNat:=by
 unfold Lib.itoa
 rw [if_neg (by omega)]
theorem decimal_c (n : Int) (hn : I64 n) (h : Ro) : Val Tryz.prog 340 #[.int .i64 n] h (.string (str (Lib.itoa n))):=by
 refine Au (args:=[_]) ts_ok Go.Proofs.Tryz.func340 rfl rfl fun w0 X0 => ?_
 unfold I64 at hn
 by_cases h0 : n < 0
 · have hl:=Ia (u:=(0 - (n + 1) + 1).toNat) (by omega)
   rw [Zi h0]
   repeat' (first|apply Ad|apply Aa|apply Ab|(apply GOl_neg;exact J;omega;exact J;exact J)|(apply Ov;(iterate 3 exact J);omega;exact J;exact J)|(apply Tc;(iterate 3 exact J);omega;exact J;exact J)|(apply Be;(iterate 3 exact J);omega;exact J;exact J)|(apply Ac;(iterate 3 exact J))|(apply Bc;exact J;exact J;(first|(apply Ic (a:=[45]);(iterate 3 exact J);(simp only [List.length_cons,List.length_nil];omega)));exact QA)|(apply Aj;(iterate 3 exact J);(first|(apply Ai;exact J;exact Zn;exact Vl (0 - (n + 1) + 1) (by omega) (by omega) _;skip)))|(apply Af;exact J;all_goals (intro hc;try simp only [hcS,reduceCtorEq] at hc;try (exfalso;omega)))|(apply Av;(iterate 3 exact J)))
   all_goals first|rfl|(exfalso;omega)
 · rw [Wy (by omega)]
   repeat' (first|apply Ad|apply Ap|apply Aa|apply Ab|(apply Ov;(iterate 3 exact J);omega;exact J;exact J)|(apply Ac;(iterate 3 exact J))|(apply Aj;(iterate 3 exact J);(first|(apply Ai;exact J;exact Zn;exact Vl n (by omega) (by omega) _;skip)))|(apply Af;exact J;all_goals (intro hc;try simp only [hcS,reduceCtorEq] at hc;try (exfalso;omega)))|(apply Av;(iterate 3 exact J)))
   all_goals first|rfl|(exfalso;omega)
theorem bText_dec (s : List UInt8) : bText s = Lib.decDigits s.length ++ [58] ++ s:=by
 unfold bText
 rw [Wy (by omega)]
 simp
theorem itoa_len {n : Int} (hn : I64 n) : (Lib.itoa n).length ≤ 21:=by
 unfold I64 at hn
 by_cases h0 : n < 0
 · rw [Zi h0,List.length_cons]
   have:=Ia (u:=(0 - (n + 1) + 1).toNat) (by omega)
   omega
 · rw [Wy (by omega)]
   have:=Ia (u:=n.toNat) (by omega)
   omega
def BOut (bs : List UInt8) (u : Value) (h : Ro) : Prop:=∃ A c,u = .slice A bs.length c ∧ SlOf encB 1 h A bs.length bs
theorem textE_c (h : Ro) (s : List UInt8) (hs : s.length ≤ 900000000) : Res Tryz.prog 341 #[.string (str s)] h (BOut (bText s)):=by
 refine Bn (args:=[_]) ts_ok Go.Proofs.Tryz.func341 rfl rfl fun w0 X0 => ?_
 have hl:=Ia (u:=s.length) (by omega)
 have hb:=bText_dec s
 have hsz : (str s).size = s.length:=rfl
 have hcl : (Lib.decDigits s.length ++ [58]).length ≤ 21:=by rw [List.length_append,List.length_singleton];omega
 repeat' (first|apply Ad|apply Aa|apply Ab|(apply Ov;(iterate 3 exact J);omega;exact J;exact J)|(apply Ac;(iterate 3 exact J))|(apply Bc;exact J;exact J;(first|(apply Ic (b:=[58]);(iterate 3 exact J);(simp only [List.length_cons,List.length_nil];omega)));exact QA)|(apply Aj;(iterate 3 exact J);(first|(apply Ai;exact J;exact Zn;exact Afa s.length (by omega) _;skip)|(apply Qp (s:=Lib.decDigits s.length ++ [58]);(iterate 6 exact J);omega;intro b1 c1;skip)|(apply Ya (n:=(Lib.decDigits s.length ++ [58]).length) (xs:=(Lib.decDigits s.length ++ [58]).flatMap encB) (s:=s);(iterate 10 exact J);intro v1;exact QR;omega;intro A2 c2;skip))))
 rw [← List.flatMap_append]
 refine Td (f:=true) (l8:=Lib.decDigits s.length ++ [58] ++ s) (n:=(Lib.decDigits s.length ++ [58]).length + s.length) (e:=5) (by rw [List.length_append]) QK ?_
 intro A9 c9 h9 hle9 e9 hnc hs9
 injection e9 with e91 _ e93
 subst e91;subst e93
 refine Ca rfl rfl rfl ?_
 rw [hb]
 have e8 : (Lib.decDigits s.length ++ [58] ++ s).length = (Lib.decDigits s.length ++ [58]).length + s.length:=List.length_append
 exact ⟨A2,c2,by rw [e8],by rw [e8];exact hs9⟩
end Go.Hw
namespace Go.Hw
open Go
attribute [local irreducible] GO GOl GDp Val Fn Res CellsAt ValE Blk OwnS MapA OwnPf Has
open Go.Proofs (Tryz.prog)
theorem incrS_c (h : Ro) (A : Option Addr) (n c : Nat) (ks : List (List UInt8)) (hK : SlOf encS7 1 h A n ks) (hp : ks.Pairwise fun a b => Op.bytesLess a b = true) (hn : n ≤ 1000000) : Val Tryz.prog 369 #[.slice A n c] h (.bool true):=by
 refine Au (args:=[_]) ts_ok Go.Proofs.Tryz.func369 rfl rfl fun w0 X0 => ?_
 have hlen:=hK.len
 repeat' (first|apply Ad|apply Ag|apply Aa|apply Ab|(apply Ac;(iterate 3 exact J)))
 refine Bh (X:=Nat) (fun k => 1 ≤ k ∧ (k ≤ n ∨ k = 1)) (fun k => n + 1 - k) (fun k => [(3,.int .i64 k),(0,.slice A n c)]) (fun _ => []) (fun _ => h) 1 ⟨by omega,by omega⟩ QS QT rfl ?_
 rintro k ⟨hk1,hk2⟩ ih
 by_cases hkn2 : k < n
 · have a1:=hK.addrD hkn2
   have c1:=hK.cellsD [] hkn2
   have c2:=hK.cellsD [] (show k - 1 < n by omega)
   have hls:=less_at hp hk1 (by omega)
   generalize ks.getD k [] = k1 at *
   generalize ks.getD (k - 1) [] = k0 at *
   have hkq : k - 1 < n:=by omega
   have hi1 : ((k : Int) - 1) = ((k - 1 : Nat) : Int):=by omega
   repeat' (first|apply Ad|apply Ap|apply Ah|apply Ag|apply Aa|apply Ab|(apply Be;(iterate 3 exact J);omega;exact J;exact J)|(apply Ac;(iterate 3 exact J))|(apply Ba (n:=4) [0,1,2,3,4,5,6,7,8,9] [(0,0),(1,0),(2,0),(3,0),(4,0),(5,0),(6,0),(7,0),(8,0),(9,0)];kernel_rfl)|(apply Gv;exact J;kernel_rfl;(iterate 5 exact J);omega)|(apply Cb;exact J;kernel_rfl;(iterate 3 exact J))|(apply Cg;exact J;kernel_rfl;exact J;exact J;(first|(apply Bb (j:=k);(iterate 5 exact J);exact a1;(with_reducible exact J);exact hkn2)|(apply Bb (j:=k - 1);(iterate 5 exact J);exact a1;exact hi1;exact hkq)|(apply Aw;exact J;exact Bp rfl c1 rfl)|(apply Aw;exact J;exact Bp rfl c2 rfl));exact QA)|(apply Bj;kernel_rfl;exact J)|(apply Af;exact J;all_goals (intro hc;try simp only [hcS,reduceCtorEq] at hc;try (exfalso;omega))))
   all_goals first
    | (exfalso;rw [Cz,Cz,hls] at *;simp at *;done)
    | (have h3:=ih (k + 1) ⟨by omega,by omega⟩ (by omega)
       refine Bm QS QT (h3))
 · clear ih
   repeat' (first|apply Ad|apply Aa|apply Ab|(apply Bi;exact J)|(apply Ac;(iterate 3 exact J))|(apply Af;exact J;all_goals (intro hc;try simp only [hcS,reduceCtorEq] at hc;try (exfalso;omega)))|(apply Av;(iterate 3 exact J)))
   all_goals rfl
def FrOk (d : Nat) : Prop:=∀ (h : Ro) (v : Va) (bs : List UInt8),VEnc d h v bs → Res Tryz.prog 338 #[vaV v] h fun u _ => u = .bool true
theorem Bha (h : Ro) (m : Int) : Res Tryz.prog 338 #[vaV ⟨1,m,[],sli0,sli0⟩] h fun u _ => u = .bool true:=by
 refine Bn (args:=[_]) ts_ok Go.Proofs.Tryz.func338 rfl rfl fun w0 X0 => ?_
 have hs:=Tp
 repeat' (first|apply Ad|apply Ag|apply Aa|apply Ab|(apply Az;exact J;exact J)|(apply Ac;(iterate 3 exact J))|(apply Aq;exact J;exact Bd rfl QM rfl;exact J;exact J)|(apply Aj;(iterate 3 exact J);(first|(apply Ay;exact J;intro b;skip)))|(apply Af;exact J;all_goals (intro hc;try simp only [hcS,reduceCtorEq] at hc;try (exfalso;omega)))|(apply Bg;exact J;exact J;all_goals (intro hc;try simp only [hcS,reduceCtorEq] at hc;try (exfalso;omega))))
 all_goals first
  | (exfalso;simp_all [sli0];done)
  | (exact Ca rfl rfl rfl (by simp [Dj,sli0]))
theorem Bga (h : Ro) (s : List UInt8) : Res Tryz.prog 338 #[vaV ⟨2,0,s,sli0,sli0⟩] h fun u _ => u = .bool true:=by
 refine Bn (args:=[_]) ts_ok Go.Proofs.Tryz.func338 rfl rfl fun w0 X0 => ?_
 repeat' (first|apply Ad|apply Ag|apply Aa|apply Ab|(apply Az;exact J;exact J)|(apply Ac;(iterate 3 exact J))|(apply Aq;exact J;exact Bd rfl QM rfl;exact J;exact J)|(apply Aj;(iterate 3 exact J);(first|(apply Ay;exact J;intro b;skip)))|(apply Af;exact J;all_goals (intro hc;try simp only [hcS,reduceCtorEq] at hc;try (exfalso;omega)))|(apply Bg;exact J;exact J;all_goals (intro hc;try simp only [hcS,reduceCtorEq] at hc;try (exfalso;omega))))
 all_goals first
  | (exfalso;simp_all [sli0];done)
  | (exact Ca rfl rfl rfl (by simp [Dj,sli0]))
theorem Pu (d : Nat) (ih0 : FrOk d) (h : Ro) (k : Int) (hk : k = 3 ∨ k = 4) (L K : Sli) (vs : List Va) (bss : List (List UInt8)) (hL : SlOf vaC 5 h L.A L.n vs) (hz : Zip7 (VEnc d h) vs bss) (hn : L.n ≤ 1000000) (ks : List (List UInt8)) (hK : SlOf encS7 1 h K.A K.n ks) (hp : ks.Pairwise fun a b => Op.bytesLess a b = true) (hkn : K.n ≤ 1000000) (h3 : k = 3 → K.n = 0) (h4 : k = 4 → K.n = L.n) :
 Res Tryz.prog 338 #[vaV ⟨k,0,[],L,K⟩] h fun u _ => u = .bool true:=by
 refine Bn (args:=[_]) ts_ok Go.Proofs.Tryz.func338 rfl rfl fun w0 X0 => ?_
 have hs:=Tp
 have hlen:=hL.len
 have hinc:=incrS_c h K.A K.n K.c ks hK hp hkn
 rcases hk with rfl|rfl
 · have h3:=h3 rfl
   clear h4
   repeat' (first|apply Ad|apply Ap|apply Ah|apply Ag|apply Aa|apply Ab|(apply Ac;(iterate 3 exact J))|(apply Aq;exact J;exact Bd rfl QM rfl;exact J;exact J)|(apply Aj;(iterate 3 exact J);(first|(apply Ay;exact J;intro b;skip)))|(apply Af;exact J;all_goals (intro hc;try simp only [hcS,reduceCtorEq] at hc;try (exfalso;omega))))
   all_goals (try (exfalso;omega))
   generalize b = b0
   refine Bh (X:=Nat × Ro) (fun x => x.1 ≤ L.n ∧ Le h x.2) (fun x => L.n - x.1) (fun x => [(3,.int .i64 x.1),(1,.pointer (some ⟨b0,0,none⟩))]) (fun _ => [Blk b0 192 (vaC ⟨3,0,[],L,K⟩)]) (fun x => x.2) (0,h) ⟨by dsimp only;omega,Le.refl _⟩ QS QT rfl ?_
   rintro ⟨j,hh⟩ ⟨hj,hle⟩ ih
   dsimp only at hj hle ih ⊢
   by_cases hjn : j < L.n
   · have a1:=hL.addrD hjn
     have cc:=(hL.cellsD va0 hjn).le hle
     have hv2:=(Ls hz (show j < vs.length by omega)).le hle
     generalize vs.getD j va0 = u at *
     generalize bss.getD j [] = bb at *
     have hcon:=ih0 hh u bb hv2
     repeat' (first|apply Ad|apply Ap|apply Ah|apply Ag|apply Aa|apply Ab|(apply Be;(iterate 3 exact J);omega;exact J;exact J)|(apply Ac;(iterate 3 exact J))|(apply Aq;exact J;exact Bd rfl QM rfl;exact J;exact J)|(apply Bc;exact J;exact J;(first|(apply Bb (j:=j);(iterate 5 exact J);exact a1;(with_reducible exact J);exact hjn)|(apply Aw;exact J;exact Bp rfl cc rfl));exact QA)|(apply Aj;(iterate 3 exact J);(first|(apply Bf;exact J;exact has338;exact hcon;rintro v1 h1 hle1 rfl;skip)))|(apply Af;exact J;all_goals (intro hc;try simp only [hcS,reduceCtorEq] at hc;try (exfalso;omega))))
     have h3:=ih (j + 1,h1) ⟨by dsimp only;omega,hle.trans hle1⟩ (by dsimp only;omega)
     dsimp only at h3
     refine Bm QS QT (h3)
   · clear ih
     repeat' (first|apply Ad|apply Aa|apply Ab|(apply Bi;exact J)|(apply Ac;(iterate 3 exact J))|(apply Aq;exact J;exact Bd rfl QM rfl;exact J;exact J)|(apply Af;exact J;all_goals (intro hc;try simp only [hcS,reduceCtorEq] at hc;try (exfalso;omega)))|(apply Bg;exact J;exact J;all_goals (intro hc;try simp only [hcS,reduceCtorEq] at hc;try (exfalso;omega))))
     all_goals first
      | (exfalso;simp_all [sli0];done)
      | (exact Ca rfl rfl rfl (congrArg Value.bool Tp))
 · have h4:=h4 rfl
   clear h3
   repeat' (first|apply Ad|apply Ap|apply Ah|apply Ag|apply Aa|apply Ab|(apply Ac;(iterate 3 exact J))|(apply Aq;exact J;exact Bd rfl QM rfl;exact J;exact J)|(apply Aj;(iterate 3 exact J);(first|(apply Ay;exact J;intro b;skip)|(apply Ai;exact J;exact has369;exact hinc;skip)))|(apply Af;exact J;all_goals (intro hc;try simp only [hcS,reduceCtorEq] at hc;try (exfalso;omega)))|(apply Bg;exact J;exact J;all_goals (intro hc;try simp only [hcS,reduceCtorEq] at hc;try (exfalso;omega))))
   all_goals (try (exfalso;omega))
   generalize b = b0
   refine Bh (X:=Nat × Ro) (fun x => x.1 ≤ L.n ∧ Le h x.2) (fun x => L.n - x.1) (fun x => [(3,.int .i64 x.1),(1,.pointer (some ⟨b0,0,none⟩))]) (fun _ => [Blk b0 192 (vaC ⟨4,0,[],L,K⟩)]) (fun x => x.2) (0,h) ⟨by dsimp only;omega,Le.refl _⟩ QS QT rfl ?_
   rintro ⟨j,hh⟩ ⟨hj,hle⟩ ih
   dsimp only at hj hle ih ⊢
   by_cases hjn : j < L.n
   · have a1:=hL.addrD hjn
     have cc:=(hL.cellsD va0 hjn).le hle
     have hv2:=(Ls hz (show j < vs.length by omega)).le hle
     generalize vs.getD j va0 = u at *
     generalize bss.getD j [] = bb at *
     have hcon:=ih0 hh u bb hv2
     repeat' (first|apply Ad|apply Ap|apply Ah|apply Ag|apply Aa|apply Ab|(apply Be;(iterate 3 exact J);omega;exact J;exact J)|(apply Ac;(iterate 3 exact J))|(apply Aq;exact J;exact Bd rfl QM rfl;exact J;exact J)|(apply Bc;exact J;exact J;(first|(apply Bb (j:=j);(iterate 5 exact J);exact a1;(with_reducible exact J);exact hjn)|(apply Aw;exact J;exact Bp rfl cc rfl));exact QA)|(apply Aj;(iterate 3 exact J);(first|(apply Bf;exact J;exact has338;exact hcon;rintro v1 h1 hle1 rfl;skip)))|(apply Af;exact J;all_goals (intro hc;try simp only [hcS,reduceCtorEq] at hc;try (exfalso;omega))))
     have h3:=ih (j + 1,h1) ⟨by dsimp only;omega,hle.trans hle1⟩ (by dsimp only;omega)
     dsimp only at h3
     refine Bm QS QT (h3)
   · clear ih
     repeat' (first|apply Ad|apply Aa|apply Ab|(apply Bi;exact J)|(apply Ac;(iterate 3 exact J))|(apply Aq;exact J;exact Bd rfl QM rfl;exact J;exact J)|(apply Af;exact J;all_goals (intro hc;try simp only [hcS,reduceCtorEq] at hc;try (exfalso;omega)))|(apply Bg;exact J;exact J;all_goals (intro hc;try simp only [hcS,reduceCtorEq] at hc;try (exfalso;omega))))
     all_goals first
      | (exfalso;simp_all [sli0];done)
      | (exact Ca rfl rfl rfl (congrArg Value.bool Tp))
theorem fr_ok : ∀ d,FrOk d
 | 0 => fun h v bs hv => hv.elim
 | d + 1 => fun h v bs hv => by
   rcases hv with ⟨m,rfl,hm,rfl⟩|⟨s,rfl,rfl⟩|⟨L,vs,bss,rfl,e2,e3,e4,rfl⟩|⟨L,K,vs,bss,ks,rfl,e2,e3,e4,e5,e6,e7,rfl⟩
   · exact Bha h m
   · exact Bga h s
   · exact Pu d (fr_ok d) h 3 (.inl rfl) L sli0 vs bss e2 e3 e4 [] SlOf.nil .nil (by simp [sli0]) (fun _ => rfl) (fun e => by cases e)
   · have h1:=e2.len
     have h2:=e4.len
     exact Pu d (fr_ok d) h 4 (.inr rfl) L K vs bss e2 e3 e7 ks e4 e6 (by omega) (fun e => by cases e) (fun _ => by omega)
def DpOk (d : Nat) : Prop:=∀ (h : Ro) (v : Va) (bs : List UInt8),VEnc d h v bs → Res Tryz.prog 339 #[vaV v] h fun u _ => ∃ m : Int,u = .int .i64 m ∧ 0 ≤ m ∧ m ≤ d
theorem Qe (h : Ro) (v : Va) (hk : v.k = 1 ∨ v.k = 2) : Res Tryz.prog 339 #[vaV v] h fun u _ => u = .int .i64 0:=by
 refine Bn (args:=[_]) ts_ok Go.Proofs.Tryz.func339 rfl rfl fun w0 X0 => ?_
 obtain ⟨vk,vn,vs,vL,vK⟩:=v
 dsimp only at hk
 rcases hk with rfl|rfl
 · repeat' (first|apply Ad|apply Aa|apply Ab|(apply Az;exact J;exact J)|(apply Ac;(iterate 3 exact J))|(apply Aq;exact J;exact Bd rfl QM rfl;exact J;exact J)|(apply Aj;(iterate 3 exact J);(first|(apply Ay;exact J;intro b;skip)))|(apply Af;exact J;all_goals (intro hc;try simp only [hcS,reduceCtorEq] at hc;try (exfalso;omega)))|(apply Bg;exact J;exact J;all_goals (intro hc;try simp only [hcS,reduceCtorEq] at hc;try (exfalso;omega))))
   all_goals first
    | (exfalso;simp at *;done)
    | (exact Ca rfl rfl rfl rfl)
 · repeat' (first|apply Ad|apply Aa|apply Ab|(apply Ac;(iterate 3 exact J))|(apply Aq;exact J;exact Bd rfl QM rfl;exact J;exact J)|(apply Aj;(iterate 3 exact J);(first|(apply Ay;exact J;intro b;skip)))|(apply Af;exact J;all_goals (intro hc;try simp only [hcS,reduceCtorEq] at hc;try (exfalso;omega)))|(apply Bg;exact J;exact J;all_goals (intro hc;try simp only [hcS,reduceCtorEq] at hc;try (exfalso;omega))))
   all_goals first
    | (exfalso;simp at *;done)
    | (exact Ca rfl rfl rfl rfl)
theorem Qd (d : Nat) (ih0 : DpOk d) (h : Ro) (v : Va) (hk : v.k = 3 ∨ v.k = 4) (vs : List Va) (bss : List (List UInt8)) (hL : SlOf vaC 5 h v.L.A v.L.n vs) (hz : Zip7 (VEnc d h) vs bss) (hn : v.L.n ≤ 1000000) (hd : d ≤ 1000) :
 Res Tryz.prog 339 #[vaV v] h fun u _ => ∃ m : Int,u = .int .i64 m ∧ 0 ≤ m ∧ m ≤ (d + 1 : Nat):=by
 refine Bn (args:=[_]) ts_ok Go.Proofs.Tryz.func339 rfl rfl fun w0 X0 => ?_
 have hlen:=hL.len
 obtain ⟨vk,vn,vss,vL,vK⟩:=v
 dsimp only at hk hL hn hlen
 have hk3 : ¬ vk = 1 ∧ ¬ vk = 2:=by omega
 repeat' (first|apply Ad|apply Ap|apply Ag|apply Aa|apply Ab|(apply Ac;(iterate 3 exact J))|(apply Aq;exact J;exact Bd rfl QM rfl;exact J;exact J)|(apply Aj;(iterate 3 exact J);(first|(apply Ay;exact J;intro b;skip)))|(apply Af;exact J;all_goals (intro hc;try simp only [hcS,reduceCtorEq] at hc;try (exfalso;omega)))|(apply Bg;exact J;exact J;all_goals (intro hc;try simp only [hcS,reduceCtorEq] at hc;try (exfalso;omega))))
 all_goals (try (exfalso;omega))
 all_goals (try (exfalso;simp [Dj,hk3] at *;done))
 generalize b = b0
 refine Bh (X:=Nat × Int × Ro) (fun x => x.1 ≤ vL.n ∧ 0 ≤ x.2.1 ∧ x.2.1 ≤ d ∧ Le h x.2.2) (fun x => vL.n - x.1) (fun x => [(4,.int .i64 x.1),(3,.int .i64 x.2.1),(1,.pointer (some ⟨b0,0,none⟩))]) (fun _ => [Blk b0 192 (vaC ⟨vk,vn,vss,vL,vK⟩)]) (fun x => x.2.2) (0,0,h) ⟨by dsimp only;omega,by dsimp only;omega,by dsimp only;omega,Le.refl _⟩ QS QT rfl ?_
 rintro ⟨j,m0,hh⟩ ⟨hj,hm1,hm2,hle⟩ ih
 dsimp only at hj hm1 hm2 hle ih ⊢
 by_cases hjn : j < vL.n
 · have a1:=hL.addrD hjn
   have cc:=(hL.cellsD va0 hjn).le hle
   have hv2:=(Ls hz (show j < vs.length by omega)).le hle
   generalize vs.getD j va0 = u at *
   generalize bss.getD j [] = bb at *
   have hcon:=ih0 hh u bb hv2
   repeat' (first|apply Ad|apply Ap|apply Ah|apply Ag|apply Aa|apply Ab|(apply Be;(iterate 3 exact J);omega;exact J;exact J)|(apply Ac;(iterate 3 exact J))|(apply Aq;exact J;exact Bd rfl QM rfl;exact J;exact J)|(apply Bc;exact J;exact J;(first|(apply Bb (j:=j);(iterate 5 exact J);exact a1;(with_reducible exact J);exact hjn)|(apply Aw;exact J;exact Bp rfl cc rfl));exact QA)|(apply Aj;(iterate 3 exact J);(first|(apply Bf;exact J;exact has339;exact hcon;rintro v1 h1 hle1 ⟨m,rfl,q1,q2⟩;skip)))|(apply Af;exact J;all_goals (intro hc;try simp only [hcS,reduceCtorEq] at hc;try (exfalso;omega))))
   have hmx : 0 ≤ max m0 m ∧ max m0 m ≤ d:=by rw [Int.max_def];split <;> omega
   have h3:=ih (j + 1,max m0 m,h1) ⟨by dsimp only;omega,hmx.1,hmx.2,hle.trans hle1⟩ (by dsimp only;omega)
   dsimp only at h3
   refine Bm QS QT (h3)
 · clear ih
   repeat' (first|apply Ad|apply Aa|apply Ab|(apply Bi;exact J)|(apply Be;(iterate 3 exact J);omega;exact J;exact J)|(apply Ac;(iterate 3 exact J))|(apply Aq;exact J;exact Bd rfl QM rfl;exact J;exact J)|(apply Af;exact J;all_goals (intro hc;try simp only [hcS,reduceCtorEq] at hc;try (exfalso;omega))))
   all_goals exact Ca rfl rfl rfl ⟨m0 + 1,rfl,by omega,by omega⟩
theorem dp_ok : ∀ d,d ≤ 1000 → DpOk d
 | 0,_ => fun h v bs hv => hv.elim
 | d + 1,hd => fun h v bs hv => by
   rcases hv with ⟨m,rfl,hm,rfl⟩|⟨s,rfl,rfl⟩|⟨L,vs,bss,rfl,e2,e3,e4,rfl⟩|⟨L,K,vs,bss,ks,rfl,e2,e3,e4,e5,e6,e7,rfl⟩
   · exact (Qe h _ (.inl rfl)).mono fun u _ _ e => ⟨0,e,by omega,by omega⟩
   · exact (Qe h _ (.inr rfl)).mono fun u _ _ e => ⟨0,e,by omega,by omega⟩
   · exact Qd d (dp_ok d (by omega)) h _ (.inl rfl) vs bss e2 e3 e4 (by omega)
   · exact Qd d (dp_ok d (by omega)) h _ (.inr rfl) vs bss e2 e3 e7 (by omega)
theorem checkVR_c (h : Ro) (d : Nat) (hd : d ≤ 16) (v : Va) (bs : List UInt8) (hv : VEnc d h v bs) : Res Tryz.prog 262 #[vaV v] h fun u _ => u = .int .i64 0:=by
 refine Bn (args:=[_]) ts_ok Go.Proofs.Tryz.func262 rfl rfl fun w0 X0 => ?_
 repeat' (first|apply Ad|apply Ap|apply Aa|apply Ab|(apply Ac;(iterate 3 exact J))|(apply Aq;exact J;exact Bd rfl QM rfl;exact J;exact J)|(apply Aj;(iterate 3 exact J);(first|(apply Ay;exact J;intro b;skip)|(apply Bf;exact J;exact has338;exact fr_ok d _ v bs (hv.le QL);rintro v1 h1 hle1 rfl;skip)|(apply Bf;exact J;exact has339;exact dp_ok d (by omega) _ v bs (hv.le QL);rintro v2 h2 hle2 ⟨m,rfl,q1,q2⟩;skip)))|(apply Af;exact J;all_goals (intro hc;try simp only [hcS,reduceCtorEq] at hc;try (exfalso;omega))))
 all_goals first
  | (exfalso;omega)
  | (exact Ca rfl rfl rfl rfl)
end Go.Hw
namespace Go.Hw
open Go
attribute [local irreducible] GO GOl GDp Val Fn Res CellsAt ValE Blk OwnS MapA OwnPf Has
open Go.Proofs (Tryz.prog)
def EnOk (d : Nat) : Prop:=∀ (h : Ro) (v : Va) (bs : List UInt8),VEnc d h v bs → bs.length ≤ 500000000 → Res Tryz.prog 263 #[vaV v] h (BOut bs)
theorem encR1_c (h : Ro) (m : Int) (hm : I64 m) : Res Tryz.prog 263 #[vaV ⟨1,m,[],sli0,sli0⟩] h (BOut (bInt m)):=by
 refine Bn (args:=[_]) ts_ok Go.Proofs.Tryz.func263 rfl rfl fun w0 X0 => ?_
 have hl:=itoa_len hm
 have hl2 : ([105] ++ Lib.itoa m).length ≤ 22:=by rw [List.length_append,List.length_singleton];omega
 have hl3 : ([105] ++ Lib.itoa m ++ [101]).length ≤ 23:=by rw [List.length_append,List.length_singleton];omega
 have e1 : [105] ++ Lib.itoa m ++ [101] = bInt m:=rfl
 repeat' (first|apply Ad|apply Ag|apply Aa|apply Ab|(apply Ac;(iterate 3 exact J))|(apply Aq;exact J;exact Bd rfl QM rfl;exact J;exact J)|(apply Bc;exact J;exact J;(first|(apply Ic (a:=[105]) (b:=Lib.itoa m);(iterate 3 exact J);(simp only [List.length_cons,List.length_nil];omega))|(apply Ic (a:=[105] ++ Lib.itoa m) (b:=[101]);(iterate 3 exact J);(simp only [List.length_singleton];omega)));exact QA)|(apply Aj;(iterate 3 exact J);(first|(apply Ay;exact J;intro b;skip)|(apply Ai;exact J;exact has340;exact decimal_c m hm _;skip)|(apply Hg (s:=[105] ++ Lib.itoa m ++ [101]);(iterate 6 exact J);omega;intro A1 c1 h1 hle1 hs1;skip)))|(apply Af;exact J;all_goals (intro hc;try simp only [hcS,reduceCtorEq] at hc;try (exfalso;omega))))
 all_goals first
  | (exfalso;simp at *;done)
  | (exact Ca rfl rfl rfl ⟨_,_,rfl,hs1⟩)
theorem encR2_c (h : Ro) (s : List UInt8) (hs : s.length ≤ 900000000) : Res Tryz.prog 263 #[vaV ⟨2,0,s,sli0,sli0⟩] h (BOut (bText s)):=by
 refine Bn (args:=[_]) ts_ok Go.Proofs.Tryz.func263 rfl rfl fun w0 X0 => ?_
 repeat' (first|apply Ad|apply Ag|apply Aa|apply Ab|(apply Ac;(iterate 3 exact J))|(apply Aq;exact J;exact Bd rfl QM rfl;exact J;exact J)|(apply Aj;(iterate 3 exact J);(first|(apply Ay;exact J;intro b;skip)|(apply Bf;exact J;exact has341;exact textE_c _ s hs;rintro v1 h1 hle1 hv1;skip)))|(apply Af;exact J;all_goals (intro hc;try simp only [hcS,reduceCtorEq] at hc;try (exfalso;omega))))
 all_goals first
  | (exfalso;simp at *;done)
  | (exact Ca rfl rfl rfl hv1)
theorem encR3_c (d : Nat) (ih0 : EnOk d) (h : Ro) (L : Sli) (vs : List Va) (bss : List (List UInt8)) (hL : SlOf vaC 5 h L.A L.n vs) (hz : Zip7 (VEnc d h) vs bss) (hn : L.n ≤ 1000000) (hb : (bSeq bss).length ≤ 500000000) (hpos : ∀ b ∈ bss,0 < b.length) :
 Res Tryz.prog 263 #[vaV ⟨3,0,[],L,sli0⟩] h (BOut (bSeq bss)):=by
 refine Bn (args:=[_]) ts_ok Go.Proofs.Tryz.func263 rfl rfl fun w0 X0 => ?_
 have hlen:=hL.len
 have hzl:=hz.1
 have hbl : (bSeq bss).length = bss.flatten.length + 2:=by unfold bSeq;simp
 repeat' (first|apply Ad|apply Ap|apply Ah|apply Ag|apply Aa|apply Ab|(apply Ac;(iterate 3 exact J))|(apply Aq;exact J;exact Bd rfl QM rfl;exact J;exact J)|(apply Aj;(iterate 3 exact J);(first|(apply Ay;exact J;intro b;skip)|(apply Bw (n:=1) (cs:=[(108 : UInt8)].flatMap encB);(iterate 3 exact J);exact List.cons_ne_nil _ _;(iterate 6 exact J);intro bo;skip)|(apply Lj (xs:=[(108 : UInt8)].flatMap encB);(iterate 5 exact J);exact QR;skip)))|(apply Af;exact J;all_goals (intro hc;try simp only [hcS,reduceCtorEq] at hc;try (exfalso;omega))))
 all_goals (try (exfalso;simp at *;done))
 generalize b = b0
 refine Bh (X:=Nat × Option Addr × Nat × Ro) (fun x => x.1 ≤ L.n ∧ Le h x.2.2.2) (fun x => L.n - x.1)
  (fun x => [(4,.int .i64 x.1),(1,.pointer (some ⟨b0,0,none⟩)),(3,.slice x.2.1 (1 + (bss.take x.1).flatten.length) x.2.2.1)])
  (fun x => [OwnPf true 5 (.slice x.2.1 (1 + (bss.take x.1).flatten.length) x.2.2.1) (1 + (bss.take x.1).flatten.length) ((108 :: (bss.take x.1).flatten).flatMap encB),Blk b0 192 (vaC ⟨3,0,[],L,sli0⟩)]) (fun x => x.2.2.2) (0,some ⟨bo,0,none⟩,1,h) ⟨by dsimp only;omega,Le.refl _⟩ QS QT rfl ?_
 rintro ⟨k,A,c,hh⟩ ⟨hk,hle⟩ ih
 dsimp only at hk hle ih ⊢
 by_cases hkn : k < L.n
 · have a1:=hL.addrD hkn
   have cc:=(hL.cellsD va0 hkn).le hle
   have hv:=(Ls hz (show k < vs.length by omega)).le hle
   have hfl:=Ry (show k < bss.length by omega)
   have ht:=Cq [] rfl (show k < bss.length by omega)
   have hp0:=hpos _ (mem7 [] (show k < bss.length by omega))
   generalize vs.getD k va0 = u at *
   generalize bss.getD k [] = bb at *
   have hcon:=ih0 hh u bb hv (by omega)
   repeat' (first|apply Ad|apply Ap|apply Ah|apply Ag|apply Aa|apply Ab|(apply Be;(iterate 3 exact J);omega;exact J;exact J)|(apply Ac;(iterate 3 exact J))|(apply Aq;exact J;exact Bd rfl QM rfl;exact J;exact J)|(apply Bc;exact J;exact J;(first|(apply Bb (j:=k);(iterate 5 exact J);exact a1;(with_reducible exact J);omega)|(apply Aw;exact J;exact Bp rfl cc rfl));exact QA)|(apply Aj;(iterate 3 exact J);(first|(apply Bf;exact J;exact has263;exact hcon;rintro v2 h2 hle2 ⟨A2,c2,rfl,hs2⟩;skip)|(apply Fk (f:=true) (n:=1 + (bss.take k).flatten.length) (xs:=(108 :: (bss.take k).flatten).flatMap encB) (s:=bb);(iterate 8 exact J);exact hs2.le QL;exact hp0;intro v9;exact QR;omega;intro A3 c3;skip)))|(apply Af;exact J;all_goals (intro hc;try simp only [hcS,reduceCtorEq] at hc;try (exfalso;omega))))
   all_goals (try (exfalso;simp at *;done))
   all_goals
    have h3:=ih (k + 1,A3,c3,h2) ⟨by dsimp only;omega,by dsimp only;exact hle.trans hle2⟩ (by dsimp only;omega)
    dsimp only at h3
    rw [ht,List.flatten_append,List.flatten_singleton,List.length_append,← Nat.add_assoc,← List.cons_append,List.flatMap_append] at h3
    refine Bm QS QT (h3)
 · rw [List.take_of_length_le (by omega)]
   clear ih
   repeat' (first|apply Ad|apply Aa|apply Ab|(apply Bi;exact J)|(apply Ac;(iterate 3 exact J))|(apply Aq;exact J;exact Bd rfl QM rfl;exact J;exact J)|(apply Aj;(iterate 3 exact J);(first|(apply Ar (enc:=encB) (n:=1) [(101 : UInt8)];(iterate 3 exact J);exact List.cons_ne_nil _ _;(iterate 4 exact J);exact (fun _ => rfl);exact J;exact J;intro b3 h3 hle3 hs3;skip)|(apply Fk (f:=true) (n:=1 + bss.flatten.length) (xs:=(108 :: bss.flatten).flatMap encB) (s:=[(101 : UInt8)]);(iterate 8 exact J);exact hs3.le QL;omega;intro v9;exact QR;omega;intro A3 c3;skip)))|(apply Af;exact J;all_goals (intro hc;try simp only [hcS,reduceCtorEq] at hc;try (exfalso;omega))))
   have e8 : (108 :: bss.flatten).flatMap encB ++ [(101 : UInt8)].flatMap encB = (bSeq bss).flatMap encB:=by unfold bSeq;simp only [List.flatMap_cons,List.flatMap_append,List.append_assoc,List.flatMap_nil,List.append_nil,List.nil_append]
   have e9 : 1 + bss.flatten.length + 1 = (bSeq bss).length:=by omega
   rw [e8,e9]
   refine Td (f:=true) (l8:=bSeq bss) (n:=(bSeq bss).length) (e:=5) rfl QK ?_
   intro A9 c9 h9 hle9 eq9 hnc hs9
   injection eq9 with e91 _ e93
   subst e91;subst e93
   exact Ca rfl rfl rfl ⟨_,_,rfl,hs9⟩
theorem encR4_c (d : Nat) (ih0 : EnOk d) (h : Ro) (L K : Sli) (vs : List Va) (bss ks : List (List UInt8)) (hL : SlOf vaC 5 h L.A L.n vs) (hz : Zip7 (VEnc d h) vs bss) (hK : SlOf encS7 1 h K.A K.n ks) (hkl : ks.length = vs.length) (hn : L.n ≤ 1000000) (hb : (bDict ks bss).length ≤ 500000000) (hpos : ∀ b ∈ bss,0 < b.length) :
 Res Tryz.prog 263 #[vaV ⟨4,0,[],L,K⟩] h (BOut (bDict ks bss)):=by
 refine Bn (args:=[_]) ts_ok Go.Proofs.Tryz.func263 rfl rfl fun w0 X0 => ?_
 have hlen:=hL.len
 have hlenK:=hK.len
 have hzl:=hz.1
 obtain ⟨tt,htt⟩ : ∃ tt,tt = (ks.zip bss).map (fun p => bText p.1 ++ p.2):=⟨_,rfl⟩
 have hfm : (ks.zip bss).flatMap (fun p => bText p.1 ++ p.2) = tt.flatten:=by rw [htt,List.flatMap_def]
 have htl : tt.length = vs.length:=by rw [htt,List.length_map,List.length_zip];omega
 have hbl : (bDict ks bss).length = tt.flatten.length + 2:=by unfold bDict;rw [hfm];simp
 have hta : ∀ k,k < vs.length → tt.getD k [] = bText (ks.getD k []) ++ bss.getD k []:=fun k hk => by
  rw [htt];simp [List.getD,List.getElem?_eq_getElem (show k < ks.length by omega),List.getElem?_eq_getElem (show k < bss.length by omega),List.zip_eq_zipWith,List.getElem?_zipWith]
 repeat' (first|apply Ad|apply Ap|apply Ah|apply Ag|apply Aa|apply Ab|(apply Ac;(iterate 3 exact J))|(apply Aq;exact J;exact Bd rfl QM rfl;exact J;exact J)|(apply Aj;(iterate 3 exact J);(first|(apply Ay;exact J;intro b;skip)|(apply Bw (n:=1) (cs:=[(108 : UInt8)].flatMap encB);(iterate 3 exact J);exact List.cons_ne_nil _ _;(iterate 6 exact J);intro bo;skip)|(apply Lj (b:=bp) (xs:=[(100 : UInt8)].flatMap encB);(iterate 5 exact J);exact QR;skip)|(apply Bw (n:=1) (cs:=[(100 : UInt8)].flatMap encB);(iterate 3 exact J);exact List.cons_ne_nil _ _;(iterate 6 exact J);intro bp;skip)|(apply Lj (b:=bo) (xs:=[(108 : UInt8)].flatMap encB);(iterate 5 exact J);exact QR;skip)))|(apply Af;exact J;all_goals (intro hc;try simp only [hcS,reduceCtorEq] at hc;try (exfalso;omega))))
 all_goals (try (exfalso;simp at *;done))
 generalize b = b0
 refine Bh (X:=Nat × Option Addr × Nat × Ro) (fun x => x.1 ≤ L.n ∧ Le h x.2.2.2) (fun x => L.n - x.1)
  (fun x => [(4,.int .i64 x.1),(1,.pointer (some ⟨b0,0,none⟩)),(3,.slice x.2.1 (1 + (tt.take x.1).flatten.length) x.2.2.1)])
  (fun x => [OwnPf true 5 (.slice x.2.1 (1 + (tt.take x.1).flatten.length) x.2.2.1) (1 + (tt.take x.1).flatten.length) ((100 :: (tt.take x.1).flatten).flatMap encB),Blk b0 192 (vaC ⟨4,0,[],L,K⟩)]) (fun x => x.2.2.2) (0,some ⟨bp,0,none⟩,1,h) ⟨by dsimp only;omega,Le.refl _⟩ QS QT rfl ?_
 rintro ⟨k,A,c,hh⟩ ⟨hk,hle⟩ ih
 dsimp only at hk hle ih ⊢
 by_cases hkn : k < L.n
 · have a1:=hL.addrD hkn
   have cc:=(hL.cellsD va0 hkn).le hle
   have hkK : k < K.n:=by omega
   have a2:=hK.addrD hkK
   have c2k:=(hK.cellsD [] (show k < K.n by omega)).le hle
   have hv:=(Ls hz (show k < vs.length by omega)).le hle
   have hfl:=Ry (show k < tt.length by omega)
   have ht:=Cq [] rfl (show k < tt.length by omega)
   have hta1:=hta k (by omega)
   have hp0:=hpos _ (mem7 [] (show k < bss.length by omega))
   generalize vs.getD k va0 = u at *
   generalize bss.getD k [] = bb at *
   generalize ks.getD k [] = kk at *
   have htal : (tt.getD k []).length = (bText kk).length + bb.length:=by rw [hta1,List.length_append]
   have hkk : kk.length < (bText kk).length:=by unfold bText;simp;omega
   have hcon:=fun h' (hl : Le hh h') => ih0 h' u bb (hv.le hl) (by omega)
   repeat' (first|apply Ad|apply Ap|apply Ah|apply Ag|apply Aa|apply Ab|(apply Be;(iterate 3 exact J);omega;exact J;exact J)|(apply Ac;(iterate 3 exact J))|(apply Aq;exact J;exact Bd rfl QM rfl;exact J;exact J)|(apply Bc;exact J;exact J;(first|(apply Bb (j:=k);(iterate 5 exact J);exact a1;(with_reducible exact J);omega)|(apply Bb (j:=k);(iterate 5 exact J);exact a2;(with_reducible exact J);exact hkK)|(apply Aw;exact J;exact Bp rfl (cc.le QL) rfl)|(apply Aw;exact J;exact Bp rfl (c2k.le QL) rfl));exact QA)|(apply Aj;(iterate 3 exact J);(first|(apply Bf;exact J;exact has341;exact textE_c _ kk (by omega);rintro v1 h1 hle1 ⟨A1,c1,rfl,hs1⟩;skip)|(apply Fk (f:=true) (n:=1 + (tt.take k).flatten.length) (xs:=(100 :: (tt.take k).flatten).flatMap encB) (s:=bText kk);(iterate 8 exact J);exact hs1.le QL;omega;intro v9;exact QR;omega;intro A8 c8;skip)|(apply Bf;exact J;exact has263;exact hcon _ QL;rintro v2 h2 hle2 ⟨A2,c2,rfl,hs2⟩;skip)|(apply Fk (f:=true) (n:=1 + (tt.take k).flatten.length + (bText kk).length) (xs:=(100 :: (tt.take k).flatten).flatMap encB ++ (bText kk).flatMap encB) (s:=bb);(iterate 8 exact J);exact hs2.le QL;exact hp0;intro v9;exact QR;omega;intro A3 c3;skip)))|(apply Af;exact J;all_goals (intro hc;try simp only [hcS,reduceCtorEq] at hc;try (exfalso;omega))))
   all_goals (try (exfalso;simp at *;done))
   all_goals
    have h3:=ih (k + 1,A3,c3,h2) ⟨by dsimp only;omega,by dsimp only;exact hle.trans QL⟩ (by dsimp only;omega)
    dsimp only at h3
    rw [ht,List.flatten_append,List.flatten_singleton,hta1,List.length_append,List.length_append,← Nat.add_assoc,← Nat.add_assoc,← List.cons_append,List.flatMap_append,List.flatMap_append,← List.append_assoc] at h3
    refine Bm QS QT (h3)
 · rw [List.take_of_length_le (by omega)]
   clear ih
   repeat' (first|apply Ad|apply Aa|apply Ab|(apply Bi;exact J)|(apply Ac;(iterate 3 exact J))|(apply Aq;exact J;exact Bd rfl QM rfl;exact J;exact J)|(apply Aj;(iterate 3 exact J);(first|(apply Ar (enc:=encB) (n:=1) [(101 : UInt8)];(iterate 3 exact J);exact List.cons_ne_nil _ _;(iterate 4 exact J);exact (fun _ => rfl);exact J;exact J;intro b3 h3 hle3 hs3;skip)|(apply Fk (f:=true) (n:=1 + tt.flatten.length) (xs:=(100 :: tt.flatten).flatMap encB) (s:=[(101 : UInt8)]);(iterate 8 exact J);exact hs3.le QL;omega;intro v9;exact QR;omega;intro A3 c3;skip)))|(apply Af;exact J;all_goals (intro hc;try simp only [hcS,reduceCtorEq] at hc;try (exfalso;omega))))
   have e8 : (100 :: tt.flatten).flatMap encB ++ [(101 : UInt8)].flatMap encB = (bDict ks bss).flatMap encB:=by unfold bDict;rw [hfm];simp only [List.flatMap_cons,List.flatMap_append,List.append_assoc,List.flatMap_nil,List.append_nil,List.nil_append]
   have e9 : 1 + tt.flatten.length + 1 = (bDict ks bss).length:=by omega
   rw [e8,e9]
   refine Td (f:=true) (l8:=bDict ks bss) (n:=(bDict ks bss).length) (e:=5) rfl QK ?_
   intro A9 c9 h9 hle9 eq9 hnc hs9
   injection eq9 with e91 _ e93
   subst e91;subst e93
   exact Ca rfl rfl rfl ⟨_,_,rfl,hs9⟩
theorem VEnc.pos {d : Nat} {h : Ro} {v : Va} {bs : List UInt8} (e : VEnc d h v bs) : 0 < bs.length:=by
 cases d with
 | zero => exact e.elim
 | succ d =>
   rcases e with ⟨m,rfl,hm,rfl⟩|⟨s,rfl,rfl⟩|⟨L,vs,bss,rfl,e2,e3,e4,rfl⟩|⟨L,K,vs,bss,ks,rfl,e2,e3,e4,e5,e6,e7,rfl⟩
   · unfold bInt;simp
   · unfold bText;simp only [List.length_append,List.length_cons];omega
   · unfold bSeq;simp
   · unfold bDict;simp
theorem zip_pos {d : Nat} {h : Ro} {vs : List Va} {bss : List (List UInt8)} (z : Zip7 (VEnc d h) vs bss) : ∀ b ∈ bss,0 < b.length:=fun b hb => by
 obtain ⟨k,hk,rfl⟩:=List.getElem_of_mem hb
 have hk2 : k < vs.length:=z.1 ▸ hk
 exact (z.2 k vs[k] bss[k] (List.getElem?_eq_getElem hk2) (List.getElem?_eq_getElem hk)).pos
theorem en_ok : ∀ d,EnOk d
 | 0 => fun h v bs hv _ => hv.elim
 | d + 1 => fun h v bs hv hb => by
   rcases hv with ⟨m,rfl,hm,rfl⟩|⟨s,rfl,rfl⟩|⟨L,vs,bss,rfl,e2,e3,e4,rfl⟩|⟨L,K,vs,bss,ks,rfl,e2,e3,e4,e5,e6,e7,rfl⟩
   · exact encR1_c h m hm
   · exact encR2_c h s (by unfold bText at hb;simp at hb;omega)
   · exact encR3_c d (en_ok d) h L vs bss e2 e3 e4 hb (zip_pos e3)
   · exact encR4_c d (en_ok d) h L K vs bss ks e2 e3 e4 e5 e7 hb (zip_pos e3)
theorem encodeR_c (h : Ro) (d : Nat) (hd : d ≤ 16) (v : Va) (bs : List UInt8) (hv : VEnc d h v bs) (hb : bs.length ≤ 500000000) : Res Tryz.prog 194 #[vaV v] h fun u h' => ∃ A c,u = .tuple #[.slice A bs.length c,.int .i64 0] ∧ SlOf encB 1 h' A bs.length bs:=by
 refine Bn (args:=[_]) ts_ok Go.Proofs.Tryz.func194 rfl rfl fun w0 X0 => ?_
 repeat' (first|apply Ad|apply Ap|apply Aa|apply Ab|(apply Ac;(iterate 3 exact J))|(apply Aq;exact J;exact Bd rfl QM rfl;exact J;exact J)|(apply Aj;(iterate 3 exact J);(first|(apply Ay;exact J;intro b;skip)|(apply Bf;exact J;exact has262;exact checkVR_c _ d hd v bs (hv.le QL);rintro v1 h1 hle1 rfl;skip)|(apply Bf;exact J;exact has263;exact en_ok d _ v bs (hv.le QL) hb;rintro v2 h2 hle2 ⟨A2,c2,rfl,hs2⟩;skip)))|(apply Af;exact J;all_goals (intro hc;try simp only [hcS,reduceCtorEq] at hc;try (exfalso;omega))))
 all_goals first
  | (exfalso;omega)
  | (exact Fh rfl rfl rfl rfl ⟨_,_,rfl,hs2⟩)
end Go.Hw

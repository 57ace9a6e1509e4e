import Derived.Test.YtajmniiiahhfaaaGreatDoorUR3
import Derived.Test.YtajmniiiahhfaaaGreatDoorHwZe
set_option linter.unusedVariables false
set_option linter.unusedSimpArgs false
set_option maxRecDepth 100000
set_option maxHeartbeats 4000000
namespace Go.Hw
open Go
attribute [local irreducible] GO GOl GDp Val Fn Res CellsAt ValE Blk OwnS MapA OwnPf Has
open Go.Proofs (Tryz.prog)
section
variable {C : Ctx} {ds : List Deferred} {l : Sl} {Es : List Asn} {h : Ro} {K : List Item}
theorem GO_relQ8 {f : Bool} {e : TypeId} {v : Value} {n : Nat} {l8 : List UInt8} {Es' : List Asn} (hn : l8.length = n) (hT : Take Es (OwnPf f e v n (l8.flatMap encB)) Es')
    (g : ∀ A c h',Le h h' → v = .slice A n c → n ≤ c → SlOf encB 1 h' A n l8 → GO C ds l Es' h' K) : GO C ds l Es h K :=
  GO_release hT fun D h' hle hA => by
    obtain ⟨A,c,e1,e2,e3⟩:=OwnP_free hn hA
    exact g A c h' hle e1 e2 e3
end
theorem dec_len : ∀ (k u : Nat),u < 10 ^ (k + 1) → (Lib.decDigits u).length ≤ k + 1
  | 0,u,h => by
    rw [Lib.decDigits,dif_pos (by simpa using h)];simp
  | k + 1,u,h => by
    rw [Lib.decDigits]
    split
    · simp
    · rw [List.length_append]
      have:=dec_len k (u / 10) (by rw [Nat.pow_succ] at h;omega)
      simp;omega
theorem dec_len20 {u : Nat} (h : u ≤ 18446744073709551615) : (Lib.decDigits u).length ≤ 20:=dec_len 19 u (by omega)
def digs : List UInt8:=[48,49,50,51,52,53,54,55,56,57]
theorem digs_at : ∀ d,d < 10 → (digs.take (d + 1)).drop d = [UInt8.ofNat (48 + d)]:=by decide
theorem digits_c : ∀ (u : Nat),u ≤ 18446744073709551615 → ∀ (h : Ro),Val Tryz.prog 274 #[.int .u64 (u : Int)] h (.string (str (Lib.decDigits u))):=by
  intro u
  induction u using Nat.strongRecOn with
  | _ u IH =>
    intro hu h
    refine Val_intro (args:=[_]) ts_ok Go.Proofs.Tryz.func274 rfl rfl fun w0 X0 => ?_
    have hd:=digs_at (u % 10) (by omega)
    by_cases h10 : u < 10
    · have e : Lib.decDigits u = (digs.take (u % 10 + 1)).drop (u % 10):=by rw [hd,Lib.decDigits,dif_pos h10,Nat.mod_eq_of_lt h10]
      rw [e]
      repeat' (first|apply GO_seq|apply GO_region|apply GOl_nil|(apply GOl_rem10;(iterate 5 exact rfl))|(apply GOl_addU;(iterate 3 exact rfl);omega;exact rfl;exact rfl)|(apply GOl_pv;(iterate 3 exact rfl))|(apply GOl_ov;exact rfl;exact rfl;(first|(apply OV_strPart (s:=digs) (lo:=u % 10) (hi:=u % 10 + 1);(iterate 6 exact rfl);omega;omega;(show u % 10 + 1 ≤ 10;omega)));exact QA)|(apply GO_cond;exact rfl;all_goals (intro hc;try simp only [hcS,reduceCtorEq] at hc;try (exfalso;omega)))|(apply GO_retV1;(iterate 3 exact rfl)))
      all_goals first|rfl|(exfalso;omega)
    · have ih:=fun h => IH (u / 10) (by omega) (by omega) h
      have hl:=dec_len20 (u:=u / 10) (by omega)
      have e : Lib.decDigits u = Lib.decDigits (u / 10) ++ (digs.take (u % 10 + 1)).drop (u % 10):=by
        rw [hd];conv => lhs;rw [Lib.decDigits,dif_neg h10]
      have hl2 : ((digs.take (u % 10 + 1)).drop (u % 10)).length = 1:=by rw [hd];rfl
      rw [e]
      clear e hd
      repeat' (first|apply GO_seq|apply GO_skip|apply GO_region|apply GOl_nil|(apply GOl_rem10;(iterate 5 exact rfl))|(apply GOl_quo10;(iterate 3 exact rfl);exact hu;exact rfl;exact rfl)|(apply GOl_addU;(iterate 3 exact rfl);omega;exact rfl;exact rfl)|(apply GOl_pv;(iterate 3 exact rfl))|(apply GOl_ov;exact rfl;exact rfl;(first|(apply OV_strPart (s:=digs) (lo:=u % 10) (hi:=u % 10 + 1);(iterate 6 exact rfl);omega;omega;(show u % 10 + 1 ≤ 10;omega))|(apply OV_strCat;(iterate 3 exact rfl);omega));exact QA)|(apply GOl_to;(iterate 3 exact rfl);(first|(apply OpTo_val;exact rfl;exact has274;exact ih _;skip)))|(apply GO_cond;exact rfl;all_goals (intro hc;try simp only [hcS,reduceCtorEq] at hc;try (exfalso;omega)))|(apply GO_retV1;(iterate 3 exact rfl)))
      all_goals first|rfl|(exfalso;omega)
theorem digitsI_c (n : Int) (h1 : 0 ≤ n) (h2 : n ≤ 18446744073709551615) (h : Ro) : Val Tryz.prog 274 #[.int .u64 n] h (.string (str (Lib.decDigits n.toNat))):=by
  have:=digits_c n.toNat (by omega) h
  rwa [Int.toNat_of_nonneg h1] at this
theorem itoa_neg {n : Int} (h : n < 0) : Lib.itoa n = 45 :: Lib.decDigits (0 - (n + 1) + 1).toNat:=by
  unfold Lib.itoa
  rw [if_pos h,show n.natAbs = (0 - (n + 1) + 1).toNat by omega]
theorem itoa_nn {n : Int} (h : 0 ≤ n) : Lib.itoa n = Lib.decDigits n.toNat:=by
  unfold Lib.itoa
  rw [if_neg (by omega)]
theorem decimal_c (n : Int) (hn : I64 n) (h : Ro) : Val Tryz.prog 243 #[.int .i64 n] h (.string (str (Lib.itoa n))):=by
  refine Val_intro (args:=[_]) ts_ok Go.Proofs.Tryz.func243 rfl rfl fun w0 X0 => ?_
  unfold I64 at hn
  by_cases h0 : n < 0
  · have hl:=dec_len20 (u:=(0 - (n + 1) + 1).toNat) (by omega)
    rw [itoa_neg h0]
    repeat' (first|apply GO_seq|apply GO_region|apply GOl_nil|(apply GOl_neg;exact rfl;omega;exact rfl;exact rfl)|(apply GOl_convU;(iterate 3 exact rfl);omega;exact rfl;exact rfl)|(apply GOl_addU;(iterate 3 exact rfl);omega;exact rfl;exact rfl)|(apply GOl_add;(iterate 3 exact rfl);omega;exact rfl;exact rfl)|(apply GOl_pv;(iterate 3 exact rfl))|(apply GOl_ov;exact rfl;exact rfl;(first|(apply OV_strCat (a:=[45]);(iterate 3 exact rfl);(simp only [List.length_cons,List.length_nil];omega)));exact QA)|(apply GOl_to;(iterate 3 exact rfl);(first|(apply OpTo_val;exact rfl;exact has274;exact digitsI_c (0 - (n + 1) + 1) (by omega) (by omega) _;skip)))|(apply GO_cond;exact rfl;all_goals (intro hc;try simp only [hcS,reduceCtorEq] at hc;try (exfalso;omega)))|(apply GO_retV1;(iterate 3 exact rfl)))
    all_goals first|rfl|(exfalso;omega)
  · rw [itoa_nn (by omega)]
    repeat' (first|apply GO_seq|apply GO_skip|apply GO_region|apply GOl_nil|(apply GOl_convU;(iterate 3 exact rfl);omega;exact rfl;exact rfl)|(apply GOl_pv;(iterate 3 exact rfl))|(apply GOl_to;(iterate 3 exact rfl);(first|(apply OpTo_val;exact rfl;exact has274;exact digitsI_c n (by omega) (by omega) _;skip)))|(apply GO_cond;exact rfl;all_goals (intro hc;try simp only [hcS,reduceCtorEq] at hc;try (exfalso;omega)))|(apply GO_retV1;(iterate 3 exact rfl)))
    all_goals first|rfl|(exfalso;omega)
theorem bText_dec (s : List UInt8) : bText s = Lib.decDigits s.length ++ [58] ++ s:=by
  unfold bText
  rw [itoa_nn (by omega)]
  simp
theorem itoa_len {n : Int} (hn : I64 n) : (Lib.itoa n).length ≤ 21:=by
  unfold I64 at hn
  by_cases h0 : n < 0
  · rw [itoa_neg h0,List.length_cons]
    have:=dec_len20 (u:=(0 - (n + 1) + 1).toNat) (by omega)
    omega
  · rw [itoa_nn (by omega)]
    have:=dec_len20 (u:=n.toNat) (by omega)
    omega
def BOut (bs : List UInt8) (u : Value) (h : Ro) : Prop:=∃ A c,u = .slice A bs.length c ∧ SlOf encB 1 h A bs.length bs
theorem textE_c (h : Ro) (s : List UInt8) (hs : s.length ≤ 900000000) : Res Tryz.prog 244 #[.string (str s)] h (BOut (bText s)):=by
  refine Res_intro (args:=[_]) ts_ok Go.Proofs.Tryz.func244 rfl rfl fun w0 X0 => ?_
  have hl:=dec_len20 (u:=s.length) (by omega)
  have hb:=bText_dec s
  have hsz : (str s).size = s.length:=rfl
  have hcl : (Lib.decDigits s.length ++ [58]).length ≤ 21:=by rw [List.length_append,List.length_singleton];omega
  repeat' (first|apply GO_seq|apply GO_region|apply GOl_nil|(apply GOl_convU;(iterate 3 exact rfl);omega;exact rfl;exact rfl)|(apply GOl_pv;(iterate 3 exact rfl))|(apply GOl_ov;exact rfl;exact rfl;(first|(apply OV_strCat (b:=[58]);(iterate 3 exact rfl);(simp only [List.length_cons,List.length_nil];omega)));exact QA)|(apply GOl_to;(iterate 3 exact rfl);(first|(apply OpTo_val;exact rfl;exact has274;exact digits_c s.length (by omega) _;skip)|(apply OpTo_bytes (s:=Lib.decDigits s.length ++ [58]);(iterate 6 exact rfl);omega;intro b1 c1;skip)|(apply OpTo_appStr (n:=(Lib.decDigits s.length ++ [58]).length) (xs:=(Lib.decDigits s.length ++ [58]).flatMap encB) (s:=s);(iterate 10 exact rfl);intro v1;exact QR;omega;intro A2 c2;skip))))
  rw [← List.flatMap_append]
  refine GO_relQ8 (f:=true) (l8:=Lib.decDigits s.length ++ [58] ++ s) (n:=(Lib.decDigits s.length ++ [58]).length + s.length) (e:=5) (by rw [List.length_append]) QK ?_
  intro A9 c9 h9 hle9 e9 hnc hs9
  injection e9 with e91 _ e93
  subst e91;subst e93
  refine GO_retR1 rfl rfl rfl ?_
  rw [hb]
  have e8 : (Lib.decDigits s.length ++ [58] ++ s).length = (Lib.decDigits s.length ++ [58]).length + s.length:=List.length_append
  exact ⟨A2,c2,by rw [e8],by rw [e8];exact hs9⟩
end Go.Hw

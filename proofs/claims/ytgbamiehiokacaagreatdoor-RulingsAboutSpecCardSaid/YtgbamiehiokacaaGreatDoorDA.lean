import Derived.Test.YtgbamiehiokacaaGreatDoorGA
import Derived.Test.YtgbamiehiokacaaGreatDoorHD
import Derived.Test.YtgbamiehiokacaaGreatDoorHB
import Derived.Lib.AppendZeros
set_option linter.unusedVariables false
set_option linter.unusedSimpArgs false
set_option maxRecDepth 100000
set_option maxHeartbeats 4000000
namespace Go.Hw
open Go
attribute [local irreducible] GO GOl GDp Val Fn Res CellsAt ValE Blk OwnS MapA OwnPf Has
open Go.Proofs (Tryz.prog)
theorem rotl_c (h : Ro) (x : B64) (n : Nat) (hn : n < 64) : Val Tryz.prog 324 #[u64V x,.int .i64 n] h (u64V (rotl x n)):=by
 refine Au (args:=[_,_]) ts_ok Go.Proofs.Tryz.func324 rfl rfl fun w0 X0 => ?_
 repeat' (first|apply Ad|apply Aa|apply Ab|(apply Bc;exact J;exact J;(first|(apply Kk;(iterate 4 exact J);exact Em (by omega))|(apply OV_and63;(iterate 3 exact J);exact hn)|(apply Sx;(iterate 3 exact J);omega)|(apply Oo;(iterate 3 exact J)));exact QA)|(apply Ac;(iterate 3 exact J))|(apply Bc;exact J;exact J;(first|(apply Il;(iterate 3 exact J))|(apply Mp (n:=64 - n);exact J;exact J;omega));exact QA)|(apply Av;(iterate 3 exact J)))
 all_goals rfl
theorem Eh {α β : Type} (f : α → β) (l : List α) (n : Nat) (x : α) : (l.set n x).map f = (l.map f).set n (f x):=List.map_set
theorem kT_set0 : ∀ i,i < 24 → (kT i).set i (kAcc i 0) = kT i:=by decide +kernel
theorem sT_next : ∀ i,i < 24 → sT (7 * i + 7) = sT (7 * (i + 1)):=fun i _ => by rw [Nat.mul_succ]
theorem kT_get {i j : Nat} (hi : i < 24) : (((kT i).set i (kAcc i j)).map u64V)[i]? = some (u64V (kAcc i j)):=by
 have h1 : i < (kT i).length:=by rw [No];exact hi
 rw [List.getElem?_map,List.getElem?_set_self h1];rfl
theorem kT_step (i j : Nat) : ((kT i).set i (kAcc i (j + 1))).map u64V = (((kT i).set i (kAcc i j)).map u64V).set i (u64V (kAcc i j ||| (BitVec.ofNat 64 (sT (7 * i + j) % 2) <<< (2 ^ j - 1)))):=by
 rw [← Eh,List.set_set];rfl
theorem tables_c (h : Ro) : Val Tryz.prog 242 #[] h (.tuple #[.agg (placeL.map encN).toArray,.agg (turnL.map encN).toArray,.agg (dgK.map u64V).toArray]):=by
 refine Au (args:=[]) ts_ok Go.Proofs.Tryz.func242 rfl rfl fun w0 X0 => ?_
 repeat' (first|apply Ad|apply Ag|apply Aa|apply Ab|(apply Ac;(iterate 3 exact J))|(apply Aj;(iterate 3 exact J);(first|(apply At;exact J;intro b;skip))))
 rename_i bp bt
 generalize b = bk
 refine Bh (X:=Nat) (fun n => n ≤ 24) (fun n => 24 - n) (fun n => [(12,.int .i64 n),(3,.int .i64 ((xyT n).1 : Nat)),(4,.int .i64 ((xyT n).2 : Nat)),(0,.pointer (some ⟨bp,0,none⟩)),(1,.pointer (some ⟨bt,0,none⟩)),(2,.pointer (some ⟨bk,0,none⟩))])
  (fun n => [Blk bk 259 ((kT 0).map u64V),Blk bt 257 ((turnT n).map encN),Blk bp 257 ((placeT 0).map encN)]) (fun _ => h) 0 (by omega) QS QT rfl ?_
 rintro n hn ih
 by_cases hn2 : n < 24
 · have hxy:=xyT_lt n
   have hxy2 : (xyT (n + 1)) = ((xyT n).2,(2 * (xyT n).1 + 3 * (xyT n).2) % 5):=rfl
   have htu : (turnT (n + 1)).map encN = ((turnT n).map encN).set (5 * (xyT n).2 + (xyT n).1) (encN ((n + 1) * (n + 2) / 2 % 64)):=by rw [turnT,Eh]
   have hln : ((turnT n).map encN).length = 25:=by simp
   have hmul : (n + 1) * (n + 2) ≤ 25 * 26:=Nat.mul_le_mul (by omega) (by omega)
   have hmi : ((n : Int) + 1) * ((n : Int) + 2) = (((n + 1) * (n + 2) : Nat) : Int):=by push_cast;rfl
   generalize (n + 1) * (n + 2) = q at *
   generalize (xyT n).1 = x at *
   generalize (xyT n).2 = y at *
   obtain ⟨hx,hy⟩:=hxy
   have htv : (turnT (n + 1)).map encN = ((turnT n).map encN).set (5 * y + x) (.int .i64 (((n : Int) + 1) * ((n : Int) + 2) / 2 % 64)):=by
    rw [htu,hmi]
    have e : ((q / 2 % 64 : Nat) : Int) = (q : Int) / 2 % 64:=by omega
    unfold encN;rw [e]
   have hye : (((2 * x + 3 * y) % 5 : Nat) : Int) = (2 * (x : Int) + 3 * (y : Int)) % 5:=by omega
   repeat' (first|apply Ad|apply Ap|apply Ah|apply Ag|apply Aa|apply Ab|(apply Bc;exact J;exact J;(first|(apply Dc (p:=5);(iterate 3 exact J);omega)|(apply Dc (p:=2);(iterate 3 exact J);omega)|(apply Dc (p:=3);(iterate 3 exact J);omega)|(apply Dc;(iterate 3 exact J);rw [hmi];omega)|(apply Je;(iterate 3 exact J);rw [hmi];omega;omega)|(apply Dl;(iterate 3 exact J);(first|omega|(rw [hmi];omega));omega));exact QA)|(apply Be;(iterate 3 exact J);omega;exact J;exact J)|(apply Ac;(iterate 3 exact J))|(apply Bc;exact J;exact J;(first|(apply Cd (j:=5 * y + x);(iterate 5 exact J);omega;omega));exact QA)|(apply Aj;(iterate 3 exact J);(first|(apply Cw (n:=5 * y + x) (cs':=(turnT (n + 1)).map encN);(iterate 3 exact J);exact QR;exact J;(rw [hln];omega);exact htv;exact J;exact J;skip)))|(apply Af;exact J;all_goals (intro hc;try simp only [hcS,reduceCtorEq] at hc;try (exfalso;omega))))
   all_goals
    have h3:=ih (n + 1) (by omega) (by omega)
    rw [hxy2] at h3
    dsimp only at h3
    rw [hye] at h3
    refine Bm QS QT (h3)
 · have hn3 : n = 24:=by omega
   subst hn3
   clear ih
   repeat' (first|apply Ad|apply Ag|apply Aa|apply Ab|(apply Bi;exact J)|(apply Ac;(iterate 3 exact J))|(apply Af;exact J;all_goals (intro hc;try simp only [hcS,reduceCtorEq] at hc;try (exfalso;omega))))
   refine Bh (X:=Nat) (fun n => n ≤ 25) (fun n => 25 - n) (fun n => [(35,.int .i64 n),(0,.pointer (some ⟨bp,0,none⟩)),(1,.pointer (some ⟨bt,0,none⟩)),(2,.pointer (some ⟨bk,0,none⟩))])
    (fun n => [Blk bk 259 ((kT 0).map u64V),Blk bt 257 (turnL.map encN),Blk bp 257 ((placeT n).map encN)]) (fun _ => h) 0 (by omega) QS QT rfl ?_
   rintro n hn ih
   by_cases hn2 : n < 25
   · have hpl : (placeT (n + 1)).map encN = ((placeT n).map encN).set n (.int .i64 (5 * ((2 * ((n : Int) % 5) + 3 * ((n : Int) / 5)) % 5) + (n : Int) / 5)):=by
      rw [placeT,Eh]
      have e : ((5 * ((2 * (n % 5) + 3 * (n / 5)) % 5) + n / 5 : Nat) : Int) = 5 * ((2 * ((n : Int) % 5) + 3 * ((n : Int) / 5)) % 5) + (n : Int) / 5:=by omega
      unfold encN;rw [e]
     have hln : ((placeT n).map encN).length = 25:=by simp
     repeat' (first|apply Ad|apply Ap|apply Ah|apply Ag|apply Aa|apply Ab|(apply Bc;exact J;exact J;(first|(apply Dc (p:=5);(iterate 3 exact J);omega)|(apply Dc (p:=2);(iterate 3 exact J);omega)|(apply Dc (p:=3);(iterate 3 exact J);omega)|(apply Je;(iterate 3 exact J);omega;omega)|(apply Dl;(iterate 3 exact J);omega;omega));exact QA)|(apply Be;(iterate 3 exact J);omega;exact J;exact J)|(apply Ac;(iterate 3 exact J))|(apply Bc;exact J;exact J;(first|(apply Cd (j:=n);(iterate 5 exact J);(with_reducible exact J);omega));exact QA)|(apply Aj;(iterate 3 exact J);(first|(apply Cw (n:=n) (cs':=(placeT (n + 1)).map encN);(iterate 3 exact J);exact QR;exact J;(rw [hln];omega);exact hpl;exact J;exact J;skip)))|(apply Af;exact J;all_goals (intro hc;try simp only [hcS,reduceCtorEq] at hc;try (exfalso;omega))))
     all_goals
      have h3:=ih (n + 1) (by omega) (by omega)
      refine Bm QS QT (h3)
   · have hn3 : n = 25:=by omega
     subst hn3
     clear ih
     repeat' (first|apply Ad|apply Ag|apply Aa|apply Ab|(apply Bi;exact J)|(apply Ac;(iterate 3 exact J))|(apply Af;exact J;all_goals (intro hc;try simp only [hcS,reduceCtorEq] at hc;try (exfalso;omega))))
     refine Bh (X:=Nat) (fun i => i ≤ 24) (fun i => 24 - i) (fun i => [(54,.int .i64 i),(9,.int .i64 (sT (7 * i) : Nat)),(0,.pointer (some ⟨bp,0,none⟩)),(1,.pointer (some ⟨bt,0,none⟩)),(2,.pointer (some ⟨bk,0,none⟩))])
      (fun i => [Blk bk 259 ((kT i).map u64V),Blk bt 257 (turnL.map encN),Blk bp 257 (placeL.map encN)]) (fun _ => h) 0 (by omega) QS QT rfl ?_
     rintro i hi ih
     by_cases hi2 : i < 24
     · have hk0:=kT_set0 i hi2
       rw [← hk0]
       rw [show sT (7 * i) = sT (7 * i + 0) from rfl]
       repeat' (first|apply Ad|apply Ap|apply Ag|apply Aa|apply Ab|(apply Ac;(iterate 3 exact J))|(apply Af;exact J;all_goals (intro hc;try simp only [hcS,reduceCtorEq] at hc;try (exfalso;omega))))
       refine Bh (X:=Nat) (fun j => j ≤ 7) (fun j => 7 - j) (fun j => [(57,.int .i64 j),(54,.int .i64 i),(10,.int .i64 i),(9,.int .i64 (sT (7 * i + j) : Nat)),(0,.pointer (some ⟨bp,0,none⟩)),(1,.pointer (some ⟨bt,0,none⟩)),(2,.pointer (some ⟨bk,0,none⟩))])
        (fun j => [Blk bk 259 (((kT i).set i (kAcc i j)).map u64V),Blk bt 257 (turnL.map encN),Blk bp 257 (placeL.map encN)]) (fun _ => h) 0 (by omega) QS QT rfl ?_
       rintro j hj ih2
       by_cases hj2 : j < 7
       · have hs:=sT_le (7 * i + j)
         have hsn : sT (7 * i + (j + 1)) = sNext (sT (7 * i + j)):=rfl
         have hln : ((kT i).set i (kAcc i j)).length = 24:=by simp
         have hg:=kT_get (i:=i) (j:=j) hi2
         have hst:=kT_step i j
         generalize sT (7 * i + j) = s at *
         have hp2 : 2 ^ j ≤ 64:=Nat.le_trans (Nat.pow_le_pow_right (by omega) (show j ≤ 6 by omega)) (by decide)
         have hp1 : 1 ≤ 2 ^ j:=Nat.one_le_two_pow
         have hkl : (((kT i).set i (kAcc i j)).map u64V).length = 24:=by simp
         by_cases hbig : 2 * s > 255
         · have hsn2 : sNext s = (2 * s) ^^^ 369:=by unfold sNext;rw [if_pos hbig]
           repeat' (first|apply Ad|apply Ap|apply Ah|apply Ag|apply Aa|apply Ab|(apply Bc;exact J;exact J;(first|(apply Dc (q:=2);(iterate 3 exact J);omega)|(apply OV_xor369 (n:=2 * s);exact J;exact J;omega;exact J;omega));exact QA)|(apply Cg;exact J;kernel_rfl;exact J;exact J;(first|(apply Sz;(iterate 3 exact J);omega)|(apply Kk;(iterate 4 exact J);exact Em (by omega))|(apply Oo;(iterate 3 exact J))|(apply Sx;(iterate 3 exact J);omega)|(apply Yd;exact J;exact J;omega)|(apply Yc (m:=s % 2) (n:=2 ^ j - 1);exact J;omega;exact J;omega));exact QA)|(apply Be;(iterate 3 exact J);omega;exact J;exact J)|(apply Ac;(iterate 3 exact J))|(apply Ba (n:=21) [0,1,2,3,4,5,6,7,8,9,10,11,12] [(0,0),(1,0),(2,0),(3,0),(4,0),(5,0),(6,0),(7,0),(8,0),(9,0),(10,0),(11,0),(12,1)];kernel_rfl)|(apply Cb;exact J;kernel_rfl;(iterate 3 exact J))|(apply Cg;exact J;kernel_rfl;exact J;exact J;(first|(apply Cd (j:=i);(iterate 5 exact J);(with_reducible exact J);omega)|(apply Dg (e:=259) (n:=i);(iterate 3 exact J);exact hg));exact QA)|(apply Bq;exact J;kernel_rfl;(iterate 3 exact J);(first|(apply Cw (n:=i) (cs':=((kT i).set i (kAcc i (j + 1))).map u64V);(iterate 3 exact J);exact QR;exact J;(rw [hkl];omega);exact hst;exact J;exact J;refine ⟨Le.refl _,QN,?_⟩)))|(apply Bj;kernel_rfl;exact J)|(apply Af;exact J;all_goals (intro hc;try simp only [hcS,reduceCtorEq] at hc;try (exfalso;omega))))
           all_goals
            have h3:=ih2 (j + 1) (by omega) (by omega)
            rw [hsn,hsn2] at h3
            refine Bm QS QT (h3)
         · have hsn2 : sNext s = 2 * s:=by unfold sNext;rw [if_neg hbig]
           repeat' (first|apply Ad|apply Ap|apply Ah|apply Ag|apply Aa|apply Ab|(apply Bc;exact J;exact J;(first|(apply Dc (q:=2);(iterate 3 exact J);omega));exact QA)|(apply Cg;exact J;kernel_rfl;exact J;exact J;(first|(apply Sz;(iterate 3 exact J);omega)|(apply Kk;(iterate 4 exact J);exact Em (by omega))|(apply Oo;(iterate 3 exact J))|(apply Sx;(iterate 3 exact J);omega)|(apply Yd;exact J;exact J;omega)|(apply Yc (m:=s % 2) (n:=2 ^ j - 1);exact J;omega;exact J;omega));exact QA)|(apply Be;(iterate 3 exact J);omega;exact J;exact J)|(apply Ac;(iterate 3 exact J))|(apply Ba (n:=21) [0,1,2,3,4,5,6,7,8,9,10,11,12] [(0,0),(1,0),(2,0),(3,0),(4,0),(5,0),(6,0),(7,0),(8,0),(9,0),(10,0),(11,0),(12,1)];kernel_rfl)|(apply Cb;exact J;kernel_rfl;(iterate 3 exact J))|(apply Cg;exact J;kernel_rfl;exact J;exact J;(first|(apply Cd (j:=i);(iterate 5 exact J);(with_reducible exact J);omega)|(apply Dg (e:=259) (n:=i);(iterate 3 exact J);exact hg));exact QA)|(apply Bq;exact J;kernel_rfl;(iterate 3 exact J);(first|(apply Cw (n:=i) (cs':=((kT i).set i (kAcc i (j + 1))).map u64V);(iterate 3 exact J);exact QR;exact J;(rw [hkl];omega);exact hst;exact J;exact J;refine ⟨Le.refl _,QN,?_⟩)))|(apply Bj;kernel_rfl;exact J)|(apply Af;exact J;all_goals (intro hc;try simp only [hcS,reduceCtorEq] at hc;try (exfalso;omega))))
           all_goals
            have h3:=ih2 (j + 1) (by omega) (by omega)
            rw [hsn,hsn2,show ((2 * s : Nat) : Int) = (s : Int) * 2 by omega] at h3
            refine Bm QS QT (h3)
       · have hj3 : j = 7:=by omega
         subst hj3
         clear ih2
         repeat' (first|apply Ad|apply Ah|apply Aa|apply Ab|(apply Bi;exact J)|(apply Be;(iterate 3 exact J);omega;exact J;exact J)|(apply Ac;(iterate 3 exact J))|(apply Af;exact J;all_goals (intro hc;try simp only [hcS,reduceCtorEq] at hc;try (exfalso;omega))))
         have h3:=ih (i + 1) (by omega) (by omega)
         rw [← sT_next i hi2] at h3
         refine Bm QS QT (h3)
     · have hi3 : i = 24:=by omega
       subst hi3
       clear ih
       repeat' (first|apply Ad|apply Aa|apply Ab|(apply Bi;exact J)|(apply Ac;(iterate 3 exact J))|(apply Ba (n:=27) [0,3,1,4,2,5] [(0,0),(1,0),(2,0),(3,1),(4,1),(5,1)];kernel_rfl)|(apply Bx;exact J;kernel_rfl;(iterate 3 exact J);exact QM;exact J;exact J)|(apply Bq;exact J;kernel_rfl;(iterate 3 exact J);(first|(apply Ao;(iterate 3 exact J);exact QR;(iterate 3 exact J);refine ⟨Le.refl _,QN,?_⟩)))|(apply Bj;kernel_rfl;exact J)|(apply Af;exact J;all_goals (intro hc;try simp only [hcS,reduceCtorEq] at hc;try (exfalso;omega))))
       all_goals
        exact Jg (rs:=[.cell 0 257,.cell 1 257,.cell 2 259]) (vs:=[.agg (placeL.map encN).toArray,.agg (turnL.map encN).toArray,.agg (dgK.map u64V).toArray]) rfl rfl ⟨⟨_,rfl,Bd rfl QM rfl⟩,⟨_,rfl,Bd rfl QM rfl⟩,⟨_,rfl,Bd rfl QM rfl⟩,trivial⟩ rfl
end Go.Hw
set_option maxHeartbeats 40000000
namespace Go.Hw
open Go
theorem round_eq {L c r m : List B64} (k : B64) (hcc : c = colS L 25) (hrr : r = rhoS L c 25) (hmm : m = chiS r L 25) : roundS L k = m.set 0 (m.getD 0 0 ^^^ k):=by
 rw [hmm,hrr,hcc,roundS]
attribute [local irreducible] GO GOl GDp Val Fn Res CellsAt ValE Blk OwnS MapA OwnPf Has rotl roundS
open Go.Proofs (Tryz.prog)
theorem col_step (l : List B64) (n : Nat) : (colS l (n + 1)).map u64V = ((colS l n).map u64V).set (n % 5) (u64V ((colS l n).getD (n % 5) 0 ^^^ l.getD n 0)):=by rw [colS,Eh]
theorem rho_step (l c : List B64) (n : Nat) : (rhoS l c (n + 1)).map u64V = ((rhoS l c n).map u64V).set (placeL.getD n 0) (u64V (rotl (l.getD n 0 ^^^ (c.getD ((n % 5 + 4) % 5) 0 ^^^ rotl (c.getD ((n % 5 + 1) % 5) 0) 1)) (turnL.getD n 0))):=by rw [rhoS,Eh]
theorem chi_step (b l : List B64) (n : Nat) : (chiS b l (n + 1)).map u64V = ((chiS b l n).map u64V).set n (u64V (b.getD n 0 ^^^ (~~~ (b.getD (n - n % 5 + (n % 5 + 1) % 5) 0) &&& b.getD (n - n % 5 + (n % 5 + 2) % 5) 0))):=by rw [chiS,Eh]
theorem permute_c (h : Ro) (lb pb tb kb : Nat) (l : List B64) (hl : l.length = 25) (hp : CellsAt h ⟨pb,0,none⟩ (placeL.map encN)) (ht : CellsAt h ⟨tb,0,none⟩ (turnL.map encN)) (hk : CellsAt h ⟨kb,0,none⟩ (dgK.map u64V)) :
 Fn Tryz.prog 243 #[.pointer (some ⟨lb,0,none⟩),.pointer (some ⟨pb,0,none⟩),.pointer (some ⟨tb,0,none⟩),.pointer (some ⟨kb,0,none⟩)] [Blk lb 263 (l.map u64V)] h fun u Es _ => u = .tuple #[] ∧ Es = [Blk lb 263 ((permS l 24).map u64V)]:=by
 refine Bu (args:=[_,_,_,_]) ts_ok Go.Proofs.Tryz.func243 rfl rfl fun w0 X0 => ?_
 repeat' (first|apply Ad|apply Ag|apply Aa|apply Ab|(apply Ac;(iterate 3 exact J)))
 refine Bh (X:=Nat) (fun i => i ≤ 24) (fun i => 24 - i) (fun i => [(19,.int .i64 i),(0,.pointer (some ⟨lb,0,none⟩)),(1,.pointer (some ⟨pb,0,none⟩)),(2,.pointer (some ⟨tb,0,none⟩)),(3,.pointer (some ⟨kb,0,none⟩))])
  (fun i => [Blk lb 263 ((permS l i).map u64V)]) (fun _ => h) 0 (by omega) QS QT rfl ?_
 rintro i hi ih
 by_cases hi2 : i < 24
 · have hLl : (permS l i).length = 25:=by simp [hl]
   have hnx : permS l (i + 1) = roundS (permS l i) (dgK.getD i 0):=rfl
   have hkv:=Ii hk (Cs (l:=dgK) (n:=i) (by rw [dgK,No];exact hi2))
   generalize permS l i = L at *
   repeat' (first|apply Ad|apply Ap|apply Ag|apply Aa|apply Ab|(apply Ac;(iterate 3 exact J))|(apply Aj;(iterate 3 exact J);(first|(apply At;exact J;intro b;skip)))|(apply Af;exact J;all_goals (intro hc;try simp only [hcS,reduceCtorEq] at hc;try (exfalso;omega))))
   generalize b = cb
   refine Bh (X:=Nat) (fun n => n ≤ 25) (fun n => 25 - n) (fun n => [(23,.int .i64 n),(22,.pointer (some ⟨lb,0,none⟩)),(9,.pointer (some ⟨cb,0,none⟩)),(19,.int .i64 i),(8,.int .i64 i),(0,.pointer (some ⟨lb,0,none⟩)),(1,.pointer (some ⟨pb,0,none⟩)),(2,.pointer (some ⟨tb,0,none⟩)),(3,.pointer (some ⟨kb,0,none⟩))])
    (fun n => [Blk cb 315 ((colS L n).map u64V),Blk lb 263 (L.map u64V)]) (fun _ => h) 0 (by omega) QS QT rfl ?_
   rintro n hn ih2
   by_cases hn2 : n < 25
   · clear ih
     have hv:=Cs (l:=L) (n:=n) (by omega)
     have hc5:=Cs (l:=colS L n) (n:=n % 5) (by rw [Sh];omega)
     have hst:=col_step L n
     have hcl : ((colS L n).map u64V).length = 5:=by simp
     repeat' (first|apply Ad|apply Ap|apply Ah|apply Ag|apply Aa|apply Ab|(apply Bc;exact J;exact J;(first|(apply Dl;(iterate 3 exact J);omega;omega)|(apply Fb;(iterate 3 exact J)));exact QA)|(apply Be;(iterate 3 exact J);omega;exact J;exact J)|(apply Ac;(iterate 3 exact J))|(apply Bc;exact J;exact J;(first|(apply Cd (j:=n % 5);(iterate 5 exact J);omega;omega)|(apply Dg (b:=cb) (e:=315) (n:=n % 5);(iterate 3 exact J);exact hc5));exact QA)|(apply Aj;(iterate 3 exact J);(first|(apply Cw (n:=n % 5) (cs':=(colS L (n + 1)).map u64V);(iterate 3 exact J);exact QR;exact J;(rw [hcl];omega);exact hst;exact J;exact J;skip)))|(apply Ba (n:=6) [0,4,1,2,3,5] [(0,0),(1,0),(2,0),(3,0),(4,0),(5,0)];kernel_rfl)|(apply Cb;exact J;kernel_rfl;(iterate 3 exact J))|(apply Cg;exact J;kernel_rfl;exact J;exact J;(first|(apply Cd (j:=n);(iterate 5 exact J);(with_reducible exact J);omega)|(apply Dg (b:=lb) (e:=263) (n:=n);(iterate 3 exact J);exact hv));exact QA)|(apply Bj;kernel_rfl;exact J)|(apply Af;exact J;all_goals (intro hc;try simp only [hcS,reduceCtorEq] at hc;try (exfalso;omega))))
     all_goals
      have h3:=ih2 (n + 1) (by omega) (by omega)
      refine Bm QS QT (h3)
   · have hn3 : n = 25:=by omega
     subst hn3
     clear ih2
     obtain ⟨c,hcc⟩ : ∃ c,c = colS L 25:=⟨_,rfl⟩
     have hcl : c.length = 5:=by rw [hcc];simp
     rw [← hcc]
     repeat' (first|apply Ad|apply Ag|apply Aa|apply Ab|(apply Bi;exact J)|(apply Ac;(iterate 3 exact J))|(apply Aj;(iterate 3 exact J);(first|(apply At;exact J;intro b;skip)))|(apply Af;exact J;all_goals (intro hc;try simp only [hcS,reduceCtorEq] at hc;try (exfalso;omega))))
     generalize b = bb
     refine Bh (X:=Nat) (fun n => n ≤ 25) (fun n => 25 - n) (fun n => [(38,.int .i64 n),(37,.pointer (some ⟨lb,0,none⟩)),(12,.pointer (some ⟨bb,0,none⟩)),(9,.pointer (some ⟨cb,0,none⟩)),(19,.int .i64 i),(8,.int .i64 i),(0,.pointer (some ⟨lb,0,none⟩)),(1,.pointer (some ⟨pb,0,none⟩)),(2,.pointer (some ⟨tb,0,none⟩)),(3,.pointer (some ⟨kb,0,none⟩))])
      (fun n => [Blk bb 263 ((rhoS L c n).map u64V),Blk cb 315 (c.map u64V),Blk lb 263 (L.map u64V)]) (fun _ => h) 0 (by omega) QS QT rfl ?_
     rintro n hn ih2
     by_cases hn2 : n < 25
     · clear ih
       have hv:=Cs (l:=L) (n:=n) (by omega)
       have hc4:=Cs (l:=c) (n:=(n % 5 + 4) % 5) (by omega)
       have hc1:=Cs (l:=c) (n:=(n % 5 + 1) % 5) (by omega)
       have hpv:=Ii hp (Rk (l:=placeL) (n:=n) (by rw [placeL,Ku];exact hn2))
       have htv:=Ii ht (Rk (l:=turnL) (n:=n) (by rw [turnL,Ji];exact hn2))
       have hplt:=Ud n hn2
       have htlt:=Yi n hn2
       have hst:=rho_step L c n
       have hbl : ((rhoS L c n).map u64V).length = 25:=by simp
       generalize placeL.getD n 0 = pn at *
       generalize turnL.getD n 0 = tn at *
       generalize L.getD n 0 = v at *
       generalize c.getD ((n % 5 + 4) % 5) 0 = v4 at *
       generalize c.getD ((n % 5 + 1) % 5) 0 = v1 at *
       repeat' (first|apply Ad|apply Ap|apply Ah|apply Ag|apply Aa|apply Ab|(apply Bc;exact J;exact J;(first|(apply Dl;(iterate 3 exact J);omega;omega));exact QA)|(apply Cg;exact J;kernel_rfl;exact J;exact J;(first|(apply Dl;(iterate 3 exact J);omega;omega)|(apply Fb;(iterate 3 exact J)));exact QA)|(apply Be;(iterate 3 exact J);omega;exact J;exact J)|(apply Ac;(iterate 3 exact J))|(apply Ba (n:=12) [0,4,1,2,3,5] [(0,0),(1,0),(2,0),(3,0),(4,0),(5,0)];kernel_rfl)|(apply Ba (n:=14) [0,1,2,3,4,5,6,7,8,9,10,11,12,13,14] [(0,0),(1,0),(2,0),(3,0),(4,0),(5,0),(6,0),(7,0),(8,0),(9,0),(10,0),(11,1),(12,0),(13,0),(14,0)];kernel_rfl)|(apply Ba (n:=15) [0,1,2,3,4,5,6,7,8,9,10,11,12,13] [(0,0),(1,0),(2,0),(3,0),(4,0),(5,0),(6,0),(7,0),(8,0),(9,0),(10,0),(11,1),(12,0),(13,1)];kernel_rfl)|(apply Hl;exact J;kernel_rfl;(iterate 5 exact J);omega)|(apply Cb;exact J;kernel_rfl;(iterate 3 exact J))|(apply Cg;exact J;kernel_rfl;exact J;exact J;(first|(apply Cd (j:=n);(iterate 5 exact J);(with_reducible exact J);omega)|(apply Cd (j:=(n % 5 + 4) % 5);(iterate 5 exact J);omega;omega)|(apply Cd (j:=(n % 5 + 1) % 5);(iterate 5 exact J);omega;omega)|(apply Cd (j:=pn);(iterate 5 exact J);(with_reducible exact J);omega)|(apply Dg (b:=lb) (e:=263) (n:=n);(iterate 3 exact J);exact hv)|(apply Dg (b:=cb) (e:=315) (n:=(n % 5 + 4) % 5);(iterate 3 exact J);exact hc4)|(apply Dg (b:=cb) (e:=315) (n:=(n % 5 + 1) % 5);(iterate 3 exact J);exact hc1)|(apply Aw;exact J;exact Bp rfl hpv rfl)|(apply Aw;exact J;exact Bp rfl htv rfl));exact QA)|(apply Bq;exact J;kernel_rfl;(iterate 3 exact J);(first|(apply Ai;exact J;exact has324;(first|exact rotl_c _ _ 1 (by omega)|exact rotl_c _ _ tn htlt);refine ⟨Le.refl _,QN,?_⟩)|(apply Cw (n:=pn) (cs':=(rhoS L c (n + 1)).map u64V);(iterate 3 exact J);exact QR;exact J;(rw [hbl];omega);exact hst;exact J;exact J;refine ⟨Le.refl _,QN,?_⟩)))|(apply Bj;kernel_rfl;exact J)|(apply Af;exact J;all_goals (intro hc;try simp only [hcS,reduceCtorEq] at hc;try (exfalso;omega))))
       all_goals
        have h3:=ih2 (n + 1) (by omega) (by omega)
        refine Bm QS QT (h3)
     · have hn3 : n = 25:=by omega
       subst hn3
       clear ih2
       obtain ⟨r,hrr⟩ : ∃ r,r = rhoS L c 25:=⟨_,rfl⟩
       have hrl : r.length = 25:=by rw [hrr];simp
       rw [← hrr]
       repeat' (first|apply Ad|apply Ag|apply Aa|apply Ab|(apply Bi;exact J)|(apply Ac;(iterate 3 exact J))|(apply Af;exact J;all_goals (intro hc;try simp only [hcS,reduceCtorEq] at hc;try (exfalso;omega))))
       refine Bh (X:=Nat) (fun n => n ≤ 25) (fun n => 25 - n) (fun n => [(74,.int .i64 n),(12,.pointer (some ⟨bb,0,none⟩)),(19,.int .i64 i),(8,.int .i64 i),(0,.pointer (some ⟨lb,0,none⟩)),(1,.pointer (some ⟨pb,0,none⟩)),(2,.pointer (some ⟨tb,0,none⟩)),(3,.pointer (some ⟨kb,0,none⟩))])
        (fun n => [Blk bb 263 (r.map u64V),Blk lb 263 ((chiS r L n).map u64V)]) (fun _ => h) 0 (by omega) QS QT rfl ?_
       rintro n hn ih2
       by_cases hn2 : n < 25
       · clear ih
         have hv:=Cs (l:=r) (n:=n) (by omega)
         have hv1:=Cs (l:=r) (n:=n - n % 5 + (n % 5 + 1) % 5) (by omega)
         have hv2:=Cs (l:=r) (n:=n - n % 5 + (n % 5 + 2) % 5) (by omega)
         have hst:=chi_step r L n
         have hbl : ((chiS r L n).map u64V).length = 25:=by simp [hLl]
         repeat' (first|apply Ad|apply Ap|apply Ah|apply Ag|apply Aa|apply Ab|(apply Bc;exact J;exact J;(first|(apply Dl;(iterate 3 exact J);omega;omega));exact QA)|(apply Cg;exact J;kernel_rfl;exact J;exact J;(first|(apply Dl;(iterate 3 exact J);omega;omega)|(apply Fb;(iterate 3 exact J))|(apply Axa;(iterate 3 exact J))|(apply OV_not64;exact J));exact QA)|(apply Be;(iterate 3 exact J);omega;exact J;exact J)|(apply Ln;(iterate 3 exact J);omega;exact J;exact J)|(apply Ac;(iterate 3 exact J))|(apply Ba (n:=21) [0,1,2,3,4,5,6,7,8,9,10,11,12,13,14,15,16,17,18,19,20,21,22,23,24] [(0,0),(1,0),(2,0),(3,0),(4,0),(5,0),(6,0),(7,0),(8,0),(9,0),(10,0),(11,0),(12,0),(13,0),(14,0),(15,0),(16,0),(17,0),(18,0),(19,0),(20,0),(21,0),(22,0),(23,0),(24,1)];kernel_rfl)|(apply Hl;exact J;kernel_rfl;(iterate 5 exact J);omega)|(apply Cb;exact J;kernel_rfl;(iterate 3 exact J))|(apply Cg;exact J;kernel_rfl;exact J;exact J;(first|(apply Cd (j:=n);(iterate 5 exact J);(with_reducible exact J);omega)|(apply Cd (j:=n - n % 5 + (n % 5 + 1) % 5);(iterate 5 exact J);omega;omega)|(apply Cd (j:=n - n % 5 + (n % 5 + 2) % 5);(iterate 5 exact J);omega;omega)|(apply Dg (b:=bb) (e:=263) (n:=n);(iterate 3 exact J);exact hv)|(apply Dg (b:=bb) (e:=263) (n:=n - n % 5 + (n % 5 + 1) % 5);(iterate 3 exact J);exact hv1)|(apply Dg (b:=bb) (e:=263) (n:=n - n % 5 + (n % 5 + 2) % 5);(iterate 3 exact J);exact hv2));exact QA)|(apply Bq;exact J;kernel_rfl;(iterate 3 exact J);(first|(apply Cw (n:=n) (cs':=(chiS r L (n + 1)).map u64V);(iterate 3 exact J);exact QR;exact J;(rw [hbl];omega);exact hst;exact J;exact J;refine ⟨Le.refl _,QN,?_⟩)))|(apply Bj;kernel_rfl;exact J)|(apply Af;exact J;all_goals (intro hc;try simp only [hcS,reduceCtorEq] at hc;try (exfalso;omega))))
         all_goals
          have h3:=ih2 (n + 1) (by omega) (by omega)
          refine Bm QS QT (h3)
       · have hn3 : n = 25:=by omega
         subst hn3
         clear ih2
         obtain ⟨m,hmm⟩ : ∃ m,m = chiS r L 25:=⟨_,rfl⟩
         have hml : m.length = 25:=by rw [hmm];simp [hLl]
         rw [← hmm]
         have hv:=Cs (l:=m) (n:=0) (by omega)
         have hbl : (m.map u64V).length = 25:=by simp [hml]
         have hst : (roundS L (dgK.getD i 0)).map u64V = (m.map u64V).set 0 (u64V (m.getD 0 0 ^^^ dgK.getD i 0)):=by
          rw [← Eh,round_eq _ hcc hrr hmm]
         generalize dgK.getD i 0 = kv at *
         repeat' (first|apply Ad|apply Ah|apply Aa|apply Ab|(apply Bi;exact J)|(apply Cg;exact J;kernel_rfl;exact J;exact J;(first|(apply Fb;(iterate 3 exact J)));exact QA)|(apply Be;(iterate 3 exact J);omega;exact J;exact J)|(apply Ac;(iterate 3 exact J))|(apply Ba (n:=23) [0,1,2,3,4,5,6,7,8,9,10,11,12] [(0,0),(1,0),(2,0),(3,0),(4,0),(5,0),(6,0),(7,0),(8,0),(9,0),(10,0),(11,0),(12,1)];kernel_rfl)|(apply Cb;exact J;kernel_rfl;(iterate 3 exact J))|(apply Cg;exact J;kernel_rfl;exact J;exact J;(first|(apply Cd (j:=0);(iterate 6 exact J);omega)|(apply Cd (j:=i);(iterate 5 exact J);(with_reducible exact J);omega)|(apply Dg (b:=lb) (e:=263) (n:=0);(iterate 3 exact J);exact hv)|(apply Aw;exact J;exact Bp rfl hkv rfl));exact QA)|(apply Bq;exact J;kernel_rfl;(iterate 3 exact J);(first|(apply Cw (n:=0) (cs':=(roundS L kv).map u64V);(iterate 3 exact J);exact QR;exact J;(rw [hbl];omega);exact hst;exact J;exact J;refine ⟨Le.refl _,QN,?_⟩)))|(apply Bj;kernel_rfl;exact J)|(apply Af;exact J;all_goals (intro hc;try simp only [hcS,reduceCtorEq] at hc;try (exfalso;omega))))
         all_goals
          have h3:=ih (i + 1) (by omega) (by omega)
          rw [hnx] at h3
          refine Bm QS QT (h3)
 · have hi3 : i = 24:=by omega
   subst hi3
   clear ih
   repeat' (first|apply Ad|apply Aa|apply Ab|(apply Bi;exact J)|(apply Ac;(iterate 3 exact J))|(apply Af;exact J;all_goals (intro hc;try simp only [hcS,reduceCtorEq] at hc;try (exfalso;omega))))
   exact Di (rs:=[]) (vs:=[]) rfl rfl trivial ⟨rfl,rfl⟩
end Go.Hw
set_option maxHeartbeats 4000000
namespace Go.Hw
open Go
open Go.Proofs (Tryz.prog)
theorem Sw {C : Ctx} {l : Sl} {Es : List Asn} {h : Ro} {G : Value → List Asn → Ro → Prop} {ty : TypeId} {pos : String} {aft : Array Edge} {gd : Option (Nat × Bool)} {dst : Option Tmp} {t tn e : TypeId} {x y : Operand} {n : Nat} {T N E : Ty} (hT : tyOf t C.ts = some T) (hTd : T.desc = .slice e) (hN : tyOf tn C.ts = some N) (hNd : N.desc = .int .i64) (hE : tyOf e C.ts = some E) (hEz : E.zero = .int .u8 0) (hEs : E.size = 1) (hEb : E.bytes = 1)
 (hx : evl l x = some (.slice none 0 0)) (hy : evl l y = some (.int .i64 (n : Int))) (hn : 0 < n ∧ n ≤ 1000000000)
 (g : ∀ b c,n ≤ c → G (.slice (some ⟨b,0,none⟩) n c) (OwnS e 1 (.slice (some ⟨b,0,none⟩) n c) n (List.replicate n (.int .u8 0)) :: Es) h) : OpTo C l Es h ⟨dst,.call ⟨.builtin .append,#[x,y],#[t,tn]⟩,ty,pos,aft,gd⟩ G:=fun a w hs hp => by
 obtain ⟨i,hi,hi1,hi2,hi3⟩:=C.ok.info hE
 obtain ⟨D0,hu,hb0⟩:=C.ok.und hT
 rw [hTd] at hb0;rw [Ch hb0] at hu
 obtain ⟨D1,hu1,hb1⟩:=C.ok.und hN
 rw [hNd] at hb1;rw [Ef hb1] at hu1
 have hr:=Lib.run_append_nil_zeros (P:=C.P) w t tn ty e i (.int .u8 0) .i64 .i64 hu hu1 hi (by rw [hi3,hEz]) n hn.1 (by rw [hi1,hEs];omega) (by omega) (by rw [hi2,hEb];omega)
 have hge:=grownCap_ge w n 0 e
 have hcm:=grownCap_le_maxLen w n 0 e (by unfold maxLen;omega)
 have hz1 : (Value.int IntKind.u8 0).cells.size = 1:=rfl
 have hz2 : (Builtin.zeroCells (Value.int .u8 0).cells n).toList = List.replicate n (.int .u8 0):=by
  apply List.ext_getElem?
  intro j
  unfold Builtin.zeroCells
  rw [hz1,Nat.mul_one]
  by_cases hj : j < n
  · simp [hj,Nat.mod_one];rfl
  · simp [hj]
 refine .inl ⟨_,_,_,h,by simp only [execOp,resolve,invoke,builtin,Sem.run_bind,Sem.run_pure,Result.andThen_ok,List.map_toArray,List.map_cons,List.map_nil,hs.eval hx,hs.eval hy,hr];rfl,(hp.drew).alloc (.cells (Builtin.zeroCells (Value.int .u8 0).cells n ++ Builtin.zeroCells (Value.int .u8 0).cells (grownCap w n 0 e - n)) e) (OwnS e 1 (.slice (some ⟨w.heap.size,0,none⟩) n (grownCap w n 0 e)) n (List.replicate n (.int .u8 0))) (fun m hm => (show (OwnS e 1 (.slice (some ⟨w.heap.size,0,none⟩) n (grownCap w n 0 e)) n (List.replicate n (.int .u8 0))).holds [w.heap.size] m from by exact ⟨by simp,.inr ⟨w.heap.size,grownCap w n 0 e,_,rfl,rfl,hm,hge,hcm,(by simp only [Array.size_append,size_zeroCells,hz1];omega),(by rw [Array.toList_append,hz2,Nat.mul_one];exact List.take_left' (by simp))⟩⟩)),g _ _ hge⟩
attribute [local irreducible] GO GOl GDp Val Fn Res CellsAt ValE Blk OwnS MapA OwnPf Has rotl
theorem Na (A : Option Addr) (c sz : Nat) : sliceH A c sz = A:=by
 unfold sliceH
 split
 · rfl
 · cases A <;> simp [Addr.add]
theorem grow_c (h : Ro) (n : Nat) (hn : n ≤ 1000000000) : Fn Tryz.prog 244 #[.slice none 0 0,.int .i64 n] [] h fun u Es _ => Es = [OwnS 5 1 u 0 []]:=by
 refine Bu (args:=[_,_]) ts_ok Go.Proofs.Tryz.func244 rfl rfl fun w0 X0 => ?_
 refine Do 5 1 ?_
 by_cases h0 : n = 0
 · subst h0
   repeat' (first|apply Ad|apply Ap|apply Aa|apply Ab|(apply Ln;(iterate 3 exact J);omega;exact J;exact J)|(apply Ac;(iterate 3 exact J))|(apply Af;exact J;all_goals (intro hc;try simp only [hcS,reduceCtorEq] at hc;try (exfalso;omega))))
   exact Cf rfl rfl rfl (List.Sublist.refl _) rfl
 · repeat' (first|apply Ad|apply Ap|apply Aa|apply Ab|(apply Ln;(iterate 3 exact J);omega;exact J;exact J)|(apply Ac;(iterate 3 exact J))|(apply Bc;exact J;exact J;(first|(apply Gu (hi:=0);(iterate 6 exact J);omega;omega));exact QA)|(apply Aj;(iterate 3 exact J);(first|(apply Sw;(iterate 10 exact J);(constructor <;> omega);intro b2 c2 hc2;skip)))|(apply Af;exact J;all_goals (intro hc;try simp only [hcS,reduceCtorEq] at hc;try (exfalso;omega))))
   rw [Na]
   refine GO_asn (A':=OwnS 5 1 (.slice (some ⟨b2,0,none⟩) 0 c2) 0 []) QR (fun D m hD => by have:=Ava (m:=0) (Nat.zero_le _) hD;simpa using this) ?_
   exact Cf rfl rfl rfl (.cons_cons _ (List.nil_sublist _)) rfl
theorem Aha (h : Ro) (A B : Option Addr) (n c m d bb : Nat) (x y : List UInt8) (hx : SlOf encB 1 h A n x) (hy : SlOf encB 1 h B m y) (hn : n ≤ 100000000) (hm : m ≤ 100000000) (hb : CellsAt h ⟨bb,0,none⟩ [.slice A n c,.slice B m d]) :
 Fn Tryz.prog 185 #[.slice (some ⟨bb,0,none⟩) 2 2] [] h fun u Es _ => Es = [OwnS 5 1 u (n + m) ((x ++ y).flatMap encB)]:=by
 refine Bu (args:=[_]) ts_ok Go.Proofs.Tryz.func185 rfl rfl fun w0 X0 => ?_
 have hb0:=Ii hb (k:=0) rfl
 have hb1:=Ii hb (k:=1) rfl
 have hxl:=hx.len
 have hyl:=hy.len
 repeat' (first|apply Ad|apply Ap|apply Ah|apply Ag|apply Aa|apply Ab|(apply Bi;exact J)|(apply GO_loop)|(apply Wj)|(apply Be;(iterate 3 exact J);omega;exact J;exact J)|(apply Ac;(iterate 3 exact J))|(apply Bc;exact J;exact J;(first|(apply Dh (j:=0);(iterate 5 exact J);omega;omega)|(apply Dh (j:=1);(iterate 5 exact J);omega;omega)|(apply Aw;exact J;exact Bp rfl (hb0.le QL) rfl)|(apply Aw;exact J;exact Bp rfl (hb1.le QL) rfl));exact QA)|(apply Aj;(iterate 3 exact J);(first|(apply Bt;exact J;exact has244;(have hg7:=grow_c h (n + m) (by omega);rw [show ((n + m : Nat) : Int) = 0 + (n : Int) + (m : Int) by omega] at hg7;exact hg7);exact QT;rintro vg Eg hg9 hlg rfl;skip)|(apply Bo (enc:=encB) (xs:=[]) (ys:=x);(iterate 7 exact J);exact hx.le QL;exact fun _ => rfl;exact fun _ => Bz rfl;intro v1;exact QR;omega;exact J;intro A1 c1;skip)|(apply Bo (enc:=encB) (xs:=[] ++ x) (ys:=y);(iterate 7 exact J);exact hy.le QL;exact fun _ => rfl;exact fun _ => Bz rfl;intro v1;exact QR;omega;exact J;intro A1 c1;skip)))|(apply Af;exact J;all_goals (intro hc;try simp only [hcS,reduceCtorEq] at hc;try (exfalso;omega))))
 all_goals
  rw [List.nil_append,Nat.zero_add]
  exact Cf rfl rfl rfl (.cons_cons _ (List.nil_sublist _)) rfl
end Go.Hw

import Derived.Test.YtgbamiehiokacaaGreatDoorDA
import Derived.Test.YtgbamiehiokacaaGreatDoorHD
import Derived.Test.YtgbamiehiokacaaGreatDoorGC
import Derived.Test.YtgbamiehiokacaaGreatDoorHwXd
set_option linter.unusedVariables false
set_option linter.unusedSimpArgs false
set_option maxRecDepth 100000
set_option maxHeartbeats 40000000
namespace Go.Hw
open Go
attribute [local irreducible] GO GOl GDp Val Fn Res CellsAt ValE Blk OwnS MapA OwnPf Has rotl permS absS outT blkS endS
open Go.Proofs (Tryz.prog)
theorem Aua (l : List B64) (p : List UInt8) (i : Nat) : (absS l p (i + 1)).map u64V = ((absS l p i).map u64V).set (i / 8) (u64V ((absS l p i).getD (i / 8) 0 ^^^ (BitVec.ofNat 64 (p.getD i 0).toNat <<< (8 * (i % 8))))):=by rw [absS,Eh]
theorem Yy (l : List B64) (i : Nat) : (outT l (i + 1)).map u8V = ((outT l i).map u8V).set i (u8V (UInt8.ofNat ((l.getD (i / 8) 0) >>> (8 * (i % 8))).toNat)):=by rw [outT,Eh]
theorem Ue (l : List B64) : outT l 0 = List.replicate 32 0:=by rw [outT]
theorem Vx (l : List B64) (p : List UInt8) : absS l p 0 = l:=by rw [absS]
theorem Vq (p : List UInt8) : blkS p 0 = List.replicate 25 0:=by rw [blkS]
theorem endS_eq (n : Nat) : ((List.replicate (136 - n % 136) (0 : UInt8)).set 0 6).set (136 - n % 136 - 1) (((List.replicate (136 - n % 136) (0 : UInt8)).set 0 6).getD (136 - n % 136 - 1) 0 ^^^ 128) = endS n:=by rw [endS]
theorem addEq (b k : Nat) : (⟨b,0,none⟩ : Addr).add (k * 1) = ⟨b,k * 1,none⟩:=by rw [Db,Nat.zero_add]
def dgV (d : List UInt8) : Value:=.agg (d.map u8V).toArray
theorem sum_c (h : Ro) (A : Option Addr) (n c : Nat) (x : List UInt8) (hx : SlOf encB 1 h A n x) (hn : n ≤ 50000000) : Res Tryz.prog 184 #[.slice A n c] h fun u _ => u = dgV (sumF x):=by
 refine Bn (args:=[_]) ts_ok Go.Proofs.Tryz.func184 rfl rfl fun w0 X0 => ?_
 have hxl:=hx.len
 obtain ⟨P,hP⟩ : ∃ P,P = placeL.map encN:=⟨_,rfl⟩
 obtain ⟨T,hT⟩ : ∃ T,T = turnL.map encN:=⟨_,rfl⟩
 obtain ⟨Q,hQ⟩ : ∃ Q,Q = dgK.map u64V:=⟨_,rfl⟩
 have hPl : P.length = 25:=by rw [hP,List.length_map];exact Ku 25
 have hTl : T.length = 25:=by rw [hT,List.length_map];exact Ji 24
 have hQl : Q.length = 24:=by rw [hQ,List.length_map];exact No 24
 have hP1 : allOne P = true:=by rw [hP];decide +kernel
 have hT1 : allOne T = true:=by rw [hT];decide +kernel
 have hQ1 : allOne Q = true:=by rw [hQ];decide +kernel
 have htab:=tables_c h
 rw [← hP,← hT,← hQ] at htab
 obtain ⟨m,hm⟩ : ∃ m,m = 136 - n % 136:=⟨_,rfl⟩
 have hm1 : 1 ≤ m ∧ m ≤ 136:=by omega
 have hz0 : ((List.replicate m (0 : UInt8)).set 0 6)[m - 1]? = some (((List.replicate m (0 : UInt8)).set 0 6).getD (m - 1) 0):=Zd (by simp;omega)
 repeat' (first|apply Ad|apply Aa|apply Ab|(apply Bc;exact J;exact J;(first|(apply Dl;(iterate 3 exact J);omega;omega)|(apply OV_xor8 (b:=128);(iterate 3 exact J)));exact QA)|(apply Ln;(iterate 3 exact J);omega;exact J;exact J)|(apply Ac;(iterate 3 exact J))|(apply Bc;exact J;exact J;(first|(apply Dh (j:=0);(iterate 6 exact J);omega)|(apply Dh (j:=m - 1);(iterate 5 exact J);omega;omega)|(apply Fl (off:=0) (enc:=encB) (k:=m - 1) (sz:=1) (b:=be) (n:=m) (c:=m) (xs:=(List.replicate m (0 : UInt8)).set 0 6) (e:=5);exact J;exact J;exact addEq _ _;exact fun _ => rfl;exact hz0;exact J));exact QA)|(apply Aj;(iterate 3 exact J);(first|(apply Cn (cs':=P);(iterate 3 exact J);exact QR;(first|exact hPl.symm|(rw [hPl];rfl));exact hPl;exact hP1;skip)|(apply Cn (cs':=T);(iterate 3 exact J);exact QR;(first|exact hTl.symm|(rw [hTl];rfl));exact hTl;exact hT1;skip)|(apply Cn (cs':=Q);(iterate 3 exact J);exact QR;(first|exact hQl.symm|(rw [hQl];rfl));exact hQl;exact hQ1;skip)|(apply At;exact J;intro b;skip)|(apply Ai;exact J;exact has242;exact htab;skip)|(apply Bya (n:=m);(iterate 7 exact J);omega;omega;omega;exact J;intro be;skip)|(apply Kh (b:=be) (enc:=encB) (sz:=1) (k:=0) (z:=6) (xs:=List.replicate m (0 : UInt8));exact J;exact J;exact addEq _ _;exact J;exact fun _ => rfl;exact J;exact QR;(rw [List.length_replicate];omega);exact J;exact J;skip)|(apply Kh (b:=be) (enc:=encB) (sz:=1) (k:=m - 1) (z:=((List.replicate m (0 : UInt8)).set 0 6).getD (m - 1) 0 ^^^ 128) (xs:=(List.replicate m (0 : UInt8)).set 0 6);exact J;exact J;exact addEq _ _;exact J;exact fun _ => rfl;exact J;exact QR;(rw [List.length_set,List.length_replicate];omega);exact J;exact J;skip))))
 rename_i bo bp bt bk
 generalize b = lb
 have hes:=endS_eq n
 rw [← hm] at hes
 rw [hes]
 have hel : (endS n).length = m:=by rw [Aba,hm]
 refine GOl_relC (enc:=encB) (e:=5) (sz:=1) (n:=m) (xs:=endS n) (fun _ => rfl) hel QK ?_
 intro A2 c2 h2 hle2 e2 hnc2 hs2
 injection e2 with e21 _ e23
 subst e21;subst e23
 repeat' (first|apply Ag|apply Ab|(apply Ac;(iterate 3 exact J))|(apply Aj;(iterate 3 exact J);(first|(apply Bk (cs:=[.slice A n c,.slice (some ⟨be,0,none⟩) m m]);(iterate 3 exact J);exact List.cons_ne_nil _ _;(iterate 4 exact J);intro b6 h6 hle6 hcs6;skip)|(apply Bt;exact J;exact has185;exact Aha _ A _ n c m m b6 x (endS n) (hx.le QL) (hs2.le QL) (by omega) (by omega) hcs6;exact QT;rintro vc Ec hc9 hlc rfl;skip))))
 refine Dw (enc:=encB) (e:=5) (sz:=1) (n:=n + m) (xs:=x ++ endS n) (fun _ => rfl) (by rw [List.length_append,hel,hxl]) QK ?_
 intro A3 c3 h3 hle3 e3 hnc3 hs3
 subst e3
 refine Hj (b:=bp) (cs:=P) QK ?_
 intro h4 hle4 hcP
 refine Hj (b:=bt) (cs:=T) QK ?_
 intro h5 hle5 hcT
 refine Hj (b:=bk) (cs:=Q) QK ?_
 intro h7 hle7 hcQ
 rw [hP] at hcP
 rw [hT] at hcT
 rw [hQ] at hcQ
 obtain ⟨pp,hpp⟩ : ∃ pp,pp = x ++ endS n:=⟨_,rfl⟩
 rw [← hpp] at hs3
 obtain ⟨q,hq⟩ : ∃ q,q = (n + m) / 136:=⟨_,rfl⟩
 have hN : n + m = 136 * q:=by omega
 have hb0:=Vq pp
 refine Bh (X:=Nat × Option Addr × Nat × Ro) (fun x => x.1 ≤ q ∧ Le h7 x.2.2.2 ∧ SlOf encB 1 x.2.2.2 x.2.1 (136 * q - 136 * x.1) (pp.drop (136 * x.1)) ∧ 136 * q - 136 * x.1 ≤ x.2.2.1) (fun x => q - x.1)
  (fun x => [(8,.slice x.2.1 (136 * q - 136 * x.1) x.2.2.1),(7,.pointer (some ⟨lb,0,none⟩)),(3,.pointer (some ⟨bp,0,none⟩)),(4,.pointer (some ⟨bt,0,none⟩)),(5,.pointer (some ⟨bk,0,none⟩)),(2,.pointer (some ⟨bo,0,none⟩))])
  (fun x => [Blk lb 263 ((blkS pp x.1).map u64V),Blk bo 52 ((List.replicate 32 (0 : UInt8)).map u8V)]) (fun x => x.2.2.2) (0,A3,c3,h7) ⟨by dsimp only;omega,Le.refl _,by
    dsimp only;rw [Nat.mul_zero,Nat.sub_zero,List.drop_zero,← hN];exact hs3.le (hle4.trans (hle5.trans hle7)),by dsimp only;omega⟩ (by
    dsimp only;rw [Nat.mul_zero,Nat.sub_zero,← hN];exact QS) (by
    dsimp only;rw [hb0];exact QT) rfl ?_
 rintro ⟨k,Ak,ck,hh⟩ ⟨hk,hle,hsk,hck⟩ ih
 dsimp only at hk hle hsk hck ih ⊢
 by_cases hkq : k < q
 · have hbk : blkS pp (k + 1) = permS (absS (blkS pp k) (pp.drop (136 * k)) 136) 24:=by rw [blkS]
   have hsn:=SlOf.low hsk (lo:=136) (c:=ck) (by omega) hck
   rw [List.drop_drop] at hsn
   have hLl : (blkS pp k).length = 25:=Kd pp k
   have hnk : 136 ≤ 136 * q - 136 * k:=by omega
   have hnk2 : 136 * q - 136 * k - 136 = 136 * q - 136 * (k + 1):=by omega
   have hdr : 136 * k + 136 = 136 * (k + 1):=by omega
   rw [hnk2,hdr] at hsn
   have hnki : ((136 * q - 136 * k : Nat) : Int) ≤ 1000000000:=by omega
   generalize pp.drop (136 * k) = pk at *
   generalize blkS pp k = L at *
   generalize 136 * q - 136 * k = nk at *
   repeat' (first|apply Ad|apply Ap|apply Ag|apply Aa|apply Ab|(apply Ac;(iterate 3 exact J))|(apply Bc;exact J;exact J;(first|(apply Gu (hi:=136);(iterate 6 exact J);exact hnk;exact hck));exact QA)|(apply Af;exact J;all_goals (intro hc;try simp only [hcS,reduceCtorEq] at hc;try (exfalso;omega))))
   rw [Na]
   have ha0:=Vx L pk
   refine Bh (X:=Nat) (fun i => i ≤ 136) (fun i => 136 - i)
    (fun i => [(44,.int .i64 i),(43,.int .i64 136),(42,.slice Ak 136 ck),(8,.slice Ak nk ck),(7,.pointer (some ⟨lb,0,none⟩)),(3,.pointer (some ⟨bp,0,none⟩)),(4,.pointer (some ⟨bt,0,none⟩)),(5,.pointer (some ⟨bk,0,none⟩)),(2,.pointer (some ⟨bo,0,none⟩))])
    (fun i => [Blk lb 263 ((absS L pk i).map u64V),Blk bo 52 ((List.replicate 32 (0 : UInt8)).map u8V)]) (fun _ => hh) 0 (by omega) QS (by (try dsimp only);rw [ha0];exact QT) rfl ?_
   rintro i hi ih2
   by_cases hi2 : i < 136
   · clear ih
     have a1:=hsk.addrD (k:=i) (by omega)
     have cc:=hsk.cellsD 0 (k:=i) (by omega)
     have hst:=Aua L pk i
     have hal : (absS L pk i).length = 25:=by rw [Ik,hLl]
     have hv:=Cs (l:=absS L pk i) (n:=i / 8) (by omega)
     have hml : ((absS L pk i).map u64V).length = 25:=by rw [List.length_map,hal]
     generalize pk.getD i 0 = by1 at *
     repeat' (first|apply Ad|apply Ap|apply Ah|apply Ag|apply Aa|apply Ab|(apply Cg;exact J;kernel_rfl;exact J;exact J;(first|(apply Je;(iterate 3 exact J);omega;omega)|(apply Dl;(iterate 3 exact J);omega;omega)|(apply Dc (p:=8);(iterate 3 exact J);omega)|(apply Fb;(iterate 3 exact J))|(apply Wh (c:=by1);(iterate 4 exact J)));exact QA)|(apply Be;(iterate 3 exact J);omega;exact J;exact J)|(apply Ac;(iterate 3 exact J))|(apply Bc;exact J;exact J;(first|(apply Bb (j:=i);(iterate 5 exact J);exact a1;(with_reducible exact J);omega)|(apply Aw;exact J;exact Bp rfl cc rfl));exact QA)|(apply Ba (n:=12) [0,1,2,3,4,5,6,7,8,9,10,11,12] [(0,0),(1,0),(2,0),(3,0),(4,0),(5,0),(6,0),(7,0),(8,0),(9,0),(10,0),(11,0),(12,1)];kernel_rfl)|(apply Cb;exact J;kernel_rfl;(iterate 3 exact J))|(apply Cg;exact J;kernel_rfl;exact J;exact J;(first|(apply Il (n:=8 * (i % 8));exact J;exact J;omega)|(apply Cd (j:=i / 8);(iterate 5 exact J);omega;omega)|(apply Dg (b:=lb) (e:=263) (n:=i / 8);(iterate 3 exact J);exact hv));exact QA)|(apply Bq;exact J;kernel_rfl;(iterate 3 exact J);(first|(apply Cw (n:=i / 8) (cs':=(absS L pk (i + 1)).map u64V);(iterate 3 exact J);exact QR;exact J;(rw [hml];omega);exact hst;exact J;exact J;refine ⟨Le.refl _,QN,?_⟩)))|(apply Bj;kernel_rfl;exact J)|(apply Af;exact J;all_goals (intro hc;try simp only [hcS,reduceCtorEq] at hc;try (exfalso;omega))))
     all_goals
      have h9:=ih2 (i + 1) (by omega) (by omega)
      refine Bm QS QT (h9)
   · have hi3 : i = 136:=by omega
     subst hi3
     clear ih2
     have hal : (absS L pk 136).length = 25:=by rw [Ik,hLl]
     repeat' (first|apply Ad|apply Ah|apply Aa|apply Ab|(apply Bi;exact J)|(apply Ac;(iterate 3 exact J))|(apply Bc;exact J;exact J;(first|(apply Et (lo:=136);(iterate 6 exact J);exact hnk));exact QA)|(apply Aj;(iterate 3 exact J);(first|(apply Bt;exact J;exact has243;exact permute_c _ lb bp bt bk (absS L pk 136) hal (hcP.le QL) (hcT.le QL) (hcQ.le QL);exact QT;rintro vz Ez hz hlz ⟨rfl,rfl⟩;skip)))|(apply Af;exact J;all_goals (intro hc;try simp only [hcS,reduceCtorEq] at hc;try (exfalso;omega))))
     all_goals
      have h9:=ih (k + 1,sliceA Ak ck 136 1,ck - 136,hz) ⟨by dsimp only;omega,by dsimp only;exact hle.trans hlz,by dsimp only;exact hsn.le hlz,by dsimp only;omega⟩ (by dsimp only;omega)
      dsimp only at h9
      rw [hbk,← hnk2] at h9
      refine Bm QS QT (h9)
 · have hkq2 : k = q:=by omega
   subst hkq2
   clear ih
   have hsum : sumF x = outT (blkS pp k) 32:=by
    unfold sumF;rw [hxl,← hm,← hq,← hpp]
   obtain ⟨L,hL⟩ : ∃ L,L = blkS pp k:=⟨_,rfl⟩
   have hLl : L.length = 25:=by rw [hL];exact Kd pp k
   rw [← hL]
   rw [← hL] at hsum
   repeat' (first|apply Ad|apply Ag|apply Aa|apply Ab|(apply Bi;exact J)|(apply Ac;(iterate 3 exact J))|(apply Af;exact J;all_goals (intro hc;try simp only [hcS,reduceCtorEq] at hc;try (exfalso;omega))))
   have ho0:=Ue L
   refine Bh (X:=Nat) (fun i => i ≤ 32) (fun i => 32 - i)
    (fun i => [(63,.int .i64 i),(7,.pointer (some ⟨lb,0,none⟩)),(2,.pointer (some ⟨bo,0,none⟩))])
    (fun i => [Blk lb 263 (L.map u64V),Blk bo 52 ((outT L i).map u8V)]) (fun _ => hh) 0 (by omega) QS (by (try dsimp only);rw [ho0];exact QT) rfl ?_
   rintro i hi ih2
   by_cases hi2 : i < 32
   · have hst:=Yy L i
     have hv:=Cs (l:=L) (n:=i / 8) (by omega)
     have hml : ((outT L i).map u8V).length = 32:=by rw [List.length_map,Mh]
     repeat' (first|apply Ad|apply Ap|apply Ah|apply Ag|apply Aa|apply Ab|(apply Bc;exact J;exact J;(first|(apply Je;(iterate 3 exact J);omega;omega)|(apply Dl;(iterate 3 exact J);omega;omega)|(apply Dc (p:=8);(iterate 3 exact J);omega)|(apply Aya;(iterate 4 exact J)));exact QA)|(apply Be;(iterate 3 exact J);omega;exact J;exact J)|(apply Ac;(iterate 3 exact J))|(apply Bc;exact J;exact J;(first|(apply Mp (n:=8 * (i % 8));exact J;exact J;omega)|(apply Cd (j:=i / 8);(iterate 5 exact J);omega;omega)|(apply Cd (j:=i);(iterate 5 exact J);(with_reducible exact J);omega)|(apply Dg (b:=lb) (e:=263) (n:=i / 8);(iterate 3 exact J);exact hv));exact QA)|(apply Aj;(iterate 3 exact J);(first|(apply Cw (n:=i) (cs':=(outT L (i + 1)).map u8V);(iterate 3 exact J);exact QR;exact J;(rw [hml];omega);exact hst;exact J;exact J;skip)))|(apply Af;exact J;all_goals (intro hc;try simp only [hcS,reduceCtorEq] at hc;try (exfalso;omega))))
     all_goals
      have h9:=ih2 (i + 1) (by omega) (by omega)
      refine Bm QS QT (h9)
   · have hi3 : i = 32:=by omega
     subst hi3
     clear ih2
     rw [← hsum]
     have hol : ((sumF x).map u8V).length = 32:=by rw [List.length_map,Fo]
     have ho1 : allOne ((sumF x).map u8V) = true:=by
      generalize sumF x = o
      clear hol
      induction o with
      | nil => rfl
      | cons a l ih => rw [List.map_cons];exact ih
     have hov : dgV (sumF x) = .agg ((sumF x).map u8V).toArray:=rfl
     generalize (sumF x).map u8V = o at *
     repeat' (first|apply Ad|apply Aa|apply Ab|(apply Bi;exact J)|(apply Bc;exact J;exact J;(first|(apply Hi (b:=bo) (e:=52) (cs:=o);(iterate 3 exact J);exact hol));exact QA)|(apply Ac;(iterate 3 exact J))|(apply Aj;(iterate 3 exact J);(first|(apply Cn (cs':=o);(iterate 3 exact J);exact QR;exact J;exact hol;exact ho1;skip)))|(apply Af;exact J;all_goals (intro hc;try simp only [hcS,reduceCtorEq] at hc;try (exfalso;omega))))
     all_goals
      exact Cu rfl rfl rfl QM rfl (Dx hol) hov.symm
end Go.Hw
set_option maxHeartbeats 8000000
namespace Go.Hw
open Go
attribute [local irreducible] GO GOl GDp Val Fn Res CellsAt ValE Blk OwnS MapA OwnPf Has sumF
open Go.Proofs (Tryz.prog)
theorem OpTo_relV {C : Ctx} {l : Sl} {Es Es' : List Asn} {h : Ro} {o : Oper} {G : Value → List Asn → Ro → Prop} {α : Type} {enc : α → List Value} {e sz : Nat} {v : Value} {n : Nat} {xs : List α} (hl : ∀ x,(enc x).length = sz) (hn : xs.length = n) (hT : Take Es (OwnS e sz v n (xs.flatMap enc)) Es')
 (g : ∀ A c h',Le h h' → v = .slice A n c → n ≤ c → SlOf enc sz h' A n xs → OpTo C l Es' h' o G) : OpTo C l Es h o G:=fun a w hs hp => by
 obtain ⟨D,h',hle,hD,hp'⟩:=hp.release hT
 obtain ⟨A,c,e1,e2,e3⟩:=Fg hl hn hD
 exact g A c h' hle e1 e2 e3 a w hs hp'
theorem Qc (d : List UInt8) : allOne (d.map u8V) = true:=by
 induction d with
 | nil => rfl
 | cons a l ih => rw [List.map_cons];exact ih
theorem tagged_c (h : Ro) (tag : List UInt8) (ht : tag.length ≤ 1000) (A : Option Addr) (n c : Nat) (x : List UInt8) (hx : SlOf encB 1 h A n x) (hn : n ≤ 40000000) : Res Tryz.prog 105 #[.string (str tag),.slice A n c] h fun u _ => u = dgV (digF tag x):=by
 refine Bn (args:=[_,_]) ts_ok Go.Proofs.Tryz.func105 rfl rfl fun w0 X0 => ?_
 have hxl:=hx.len
 obtain ⟨P,hP⟩ : ∃ P,P = (sumF tag).map u8V:=⟨_,rfl⟩
 have hPl : P.length = 32:=by rw [hP,List.length_map,Fo]
 have hP1 : allOne P = true:=by rw [hP];exact Qc _
 have hPv : dgV (sumF tag) = .agg P.toArray:=by rw [hP];rfl
 repeat' (first|apply Ad|apply Aa|apply Ab|(apply Ac;(iterate 3 exact J))|(apply Aj;(iterate 3 exact J);(first|(apply Cn (cs':=P);(iterate 3 exact J);exact QR;(first|exact hPl.symm|(rw [hPl];rfl));exact hPl;exact hP1;skip)|(apply At;exact J;intro b;skip)|(apply Hg;(iterate 6 exact J);omega;intro A1 c1 h1 hle1 hs1;skip)|(apply Bf;exact J;exact has184;exact sum_c _ A1 _ c1 tag hs1 (by omega);rw [hPv];rintro v2 h2 hle2 rfl;skip))))
 rename_i bo
 generalize b = bt
 refine Tb (b:=bt) (e:=52) (cs:=P) QK ?_
 intro h3 hle3 hc3
 have hs3 : SlOf encB 1 h3 (some ⟨bt,0,none⟩) 32 (sumF tag):=SlOf.of_flat (fun _ => rfl) (Fo tag) (by rw [map_u8,← hP];exact hc3)
 have hdl : (digF tag x) = sumF (sumF tag ++ x):=rfl
 have hcl : (sumF tag ++ x).length = 32 + n:=by rw [List.length_append,Fo,hxl]
 obtain ⟨R,hR⟩ : ∃ R,R = (digF tag x).map u8V:=⟨_,rfl⟩
 have hRl : R.length = 32:=by rw [hR,List.length_map,Se]
 have hR1 : allOne R = true:=by rw [hR];exact Qc _
 have hRv : dgV (digF tag x) = .agg R.toArray:=by rw [hR];rfl
 repeat' (first|apply Ab|(apply Ac;(iterate 3 exact J))|(apply Bc;exact J;exact J;(first|(apply Hh;(iterate 4 exact J)));exact QA)|(apply Aj;(iterate 3 exact J);(first|(apply Cn (cs':=R);(iterate 3 exact J);exact QR;(first|exact hRl.symm|(rw [hRl];rfl));exact hRl;exact hR1;skip)|(apply Bk (cs:=[.slice (some ⟨bt,0,none⟩) 32 32,.slice A n c]);(iterate 3 exact J);exact List.cons_ne_nil _ _;(iterate 4 exact J);intro b6 h6 hle6 hcs6;skip)|(apply Bt;exact J;exact has185;exact Aha _ _ A 32 32 n c b6 (sumF tag) x (hs3.le QL) (hx.le QL) (by omega) (by omega) hcs6;exact QT;rintro vc Ec hc9 hlc rfl;skip)|(refine OpTo_relV (enc:=encB) (e:=5) (sz:=1) (xs:=sumF tag ++ x) (n:=32 + n) (fun _ => rfl) hcl QK ?_;intro A9 c9 h9 hle9 e9 hnc9 hs9;subst e9;apply Bf;exact J;exact has184;exact sum_c _ A9 _ c9 (sumF tag ++ x) hs9 (by omega);rw [← hdl,hRv];rintro v2 h2 hle2 rfl;skip))))
 all_goals exact Cu rfl rfl rfl QM rfl (Dx hRl) rfl
def idF (f : Fct) : List UInt8:=digF [102,97,99,116] (encF f)
theorem Iv (f : Fct) : (idF f).length = 32:=Se _ _
open Classical in
theorem id_c (h : Ro) (hG : PowG h) (s : Fsh) (f : Fct) (hf : FAt h s f) (hs : FSm f) : Res Tryz.prog 51 #[factV s f] h fun u _ => u = if FctOk f then .tuple #[dgV (idF f),.int .i64 0] else .tuple #[dgV (List.replicate 32 0),.int .i64 70]:=by
 refine Bn (args:=[_]) ts_ok Go.Proofs.Tryz.func51 rfl rfl fun w0 X0 => ?_
 by_cases hok : FctOk f
 · rw [if_pos hok]
   have hel:=Sd f hok hf.void
   obtain ⟨R,hR⟩ : ∃ R,R = (idF f).map u8V:=⟨_,rfl⟩
   have hRl : R.length = 32:=by rw [hR,List.length_map,Iv]
   have hR1 : allOne R = true:=by rw [hR];exact Qc _
   have hRv : dgV (idF f) = .agg R.toArray:=by rw [hR];rfl
   have hid : digF [102,97,99,116] (encF f) = idF f:=rfl
   rw [hRv]
   repeat' (first|apply Ad|apply Ap|apply Aa|apply Ab|(apply Ac;(iterate 3 exact J))|(apply Aq;exact J;exact Bd rfl QM rfl;exact J;exact J)|(apply Aj;(iterate 3 exact J);(first|(apply Cn (cs':=R);(iterate 3 exact J);exact QR;(first|exact hRl.symm|(rw [hRl];rfl));exact hRl;exact hR1;skip)|(apply Ay;exact J;intro b;skip)|(apply At;exact J;intro b;skip)|(apply Bf;exact J;exact has72;exact Ka _ (hG.le QL) s f (hf.le QL) hs;intro v2 h2 hle2 hq2;rw [if_pos hok] at hq2;obtain ⟨A2,c2,rfl,hr2⟩:=hq2;skip)|(apply Bf;exact J;exact has105;exact tagged_c _ [102,97,99,116] (by decide) A2 _ c2 (encF f) hr2 (by omega);rw [hid,hRv];rintro v3 h3 hle3 rfl;skip)))|(apply Af;exact J;all_goals (intro hc;try simp only [hcS,reduceCtorEq] at hc;try (exfalso;omega))))
   all_goals exact Ox rfl rfl rfl QM rfl (Dx hRl) rfl rfl
 · rw [if_neg hok]
   repeat' (first|apply Ad|apply Aa|apply Ab|(apply Ac;(iterate 3 exact J))|(apply Aq;exact J;exact Bd rfl QM rfl;exact J;exact J)|(apply Aj;(iterate 3 exact J);(first|(apply Ao;(iterate 3 exact J);exact QR;(iterate 3 exact J);skip)|(apply Ay;exact J;intro b;skip)|(apply At;exact J;intro b;skip)|(apply Bf;exact J;exact has72;exact Ka _ (hG.le QL) s f (hf.le QL) hs;intro v2 h2 hle2 hq2;rw [if_neg hok] at hq2;obtain rfl:=hq2;skip)))|(apply Af;exact J;all_goals (intro hc;try simp only [hcS,reduceCtorEq] at hc;try (exfalso;omega))))
   all_goals exact Ox rfl rfl rfl QM rfl rfl rfl rfl
end Go.Hw

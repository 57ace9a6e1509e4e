import Derived.Test.YtlnenhhbalpbpaaGreatDoorGB
import Derived.Test.YtlnenhhbalpbpaaGreatDoorMR2s
set_option linter.all false
set_option maxRecDepth 100000
set_option maxHeartbeats 4000000
namespace Go.Hw
open Go
attribute [local irreducible] GO GOl GDp Val Fn Res Ab Du Blk Bd Cd Bf Has
open Go.Proofs.Tryz (prog)
theorem inR_c (h:Ro)(n a b:Int):Val prog 117 #[.int .i64 n,.int .i64 a,.int .i64 b] h (.bool (decide (a≤n∧n≤b))):=by
 refine QXV Proofs.Tryz.func117 fun w0 X0=>?_
 repeat' (first|refine QF ?_|refine QJ ?_|(refine QI ?_ ?_<;>intro hc<;>try omega)|(apply Ac;(iterate 3 exact J)))
 all_goals (refine Bg ?_;(try rw [Me]);grind)
theorem clubR_c (h:Ro)(n:Int):Val prog 75 #[.int .i64 n] h (.bool (decide (Bel n 192))):=by
 refine QXV Proofs.Tryz.func75 fun w0 X0=>?_
 repeat' (first|refine QF ?_|(refine QG ?_;first|(refine QAl ?_))|(apply Ac;(iterate 3 exact J)))
 all_goals (refine Bg ?_;rw [decide_eq_true_eq];unfold Bel;omega)
theorem Vp (h:Ro)(n:Int):Val prog 283 #[.int .i64 n] h (.bool (decide (Bel n 8192))):=by
 refine QXV Proofs.Tryz.func283 fun w0 X0=>?_
 repeat' (first|refine QF ?_|(refine QG ?_;first|(refine QAl ?_))|(apply Ac;(iterate 3 exact J)))
 all_goals (refine Bg ?_;rw [decide_eq_true_eq];unfold Bel;omega)
theorem seasonR_c (h:Ro)(n:Int):Val prog 73 #[.int .i64 n] h (.bool (decide (Bel n 64))):=by
 refine QXV Proofs.Tryz.func73 fun w0 X0=>?_
 repeat' (first|refine QF ?_|(refine QG ?_;first|(refine QAl ?_))|(apply Ac;(iterate 3 exact J)))
 all_goals (refine Bg ?_;rw [decide_eq_true_eq];unfold Bel;omega)
theorem compR_c (h:Ro)(n:Int):Val prog 74 #[.int .i64 n] h (.bool (decide (Bel n 16))):=by
 refine QXV Proofs.Tryz.func74 fun w0 X0=>?_
 repeat' (first|refine QF ?_|(refine QG ?_;first|(refine QAl ?_))|(apply Ac;(iterate 3 exact J)))
 all_goals (refine Bg ?_;rw [decide_eq_true_eq];unfold Bel;omega)
theorem Jda (h:Ro)(n:Int):Val prog 322 #[.int .i64 n] h (.bool (decide (Bel n 100))):=by
 refine QXV Proofs.Tryz.func322 fun w0 X0=>?_
 repeat' (first|refine QF ?_|(refine QG ?_;first|(refine QAl ?_))|(apply Ac;(iterate 3 exact J)))
 all_goals (refine Bg ?_;rw [decide_eq_true_eq];unfold Bel;omega)
theorem dayR_c (h:Ro)(n:Int):Val prog 216 #[.int .i64 n] h (.bool (decide (Bel n 1048577))):=by
 refine QXV Proofs.Tryz.func216 fun w0 X0=>?_
 repeat' (first|refine QF ?_|(refine QG ?_;first|(refine QAl ?_))|(apply Ac;(iterate 3 exact J)))
 all_goals (refine Bg ?_;rw [decide_eq_true_eq];unfold Bel;omega)
theorem Dza (h:Ro)(n:Int):Val prog 320 #[.int .i64 n] h (.bool (decide (0≤n∧n≤7))):=by
 refine QXV Proofs.Tryz.func320 fun w0 X0=>?_
 repeat' (first|refine QF ?_|(refine QG ?_;first|(refine QAl ?_))|(apply Ac;(iterate 3 exact J)))
 all_goals rfl
theorem daysR_c (h:Ro)(a b:Int):Val prog 325 #[.agg (ivlC a b).toArray] h (.bool (decide (Ij a b))):=by
 refine QXV Proofs.Tryz.func325 fun w0 X0=>?_
 repeat' (first|refine QF ?_|(refine QB ?_;intro b)|(refine QG ?_;first|(apply Aa;exact J;exact has216;exact dayR_c _ _))|refine QJ ?_|(refine QI ?_ ?_<;>intro hc<;>try omega)|(apply Ac;(iterate 3 exact J)))
 all_goals (refine Bg ?_;(try rw [Me]);unfold Ij Bel at *;grind)
theorem Kn (h:Ro)(g:Ak):Val prog 36 #[De g] h (.bool (decide (Dh g))):=by
 refine QXV Proofs.Tryz.func36 fun w0 X0=>?_
 repeat' (first|refine QF ?_|(refine QB ?_;intro b)|(refine QG ?_;first|(refine QEs ?_)|(refine QE5 ?_)|(refine QDq ?_))|refine QJ ?_|(refine QI ?_ ?_<;>intro hc<;>try omega)|(apply Ac;(iterate 3 exact J)))
 all_goals (refine Bg ?_;(try simp only [Bool.not_eq_true',eqI_f]);unfold Dh;grind)
open Classical in
theorem incrR_c (h:Ro)(A:Option Addr)(n c:Nat)(xs:List Int)(hx:Ar Cu 1 h A n xs)(hn:n≤9223372036854775807) :
  Val prog 319 #[.slice A n c] h (.bool (decide (Yc xs))):=by
 refine QXV Proofs.Tryz.func319 fun w0 X0=>?_
 have hlen:=hx.len
 repeat' (first|refine QF ?_|fail)
 refine Ai (X:=Nat) (fun k=>1≤k∧(k≤n∨k=1)∧∀ i,0<i→i<k→i<xs.length→xs.getD (i-1) 0<xs.getD i 0) (fun k=>n+1-k) (fun k=>[(3,.int .i64 k),(0,.slice A n c)]) (fun _=>[]) (fun _=>h) 1 ⟨by omega,by omega,fun i h0 h1=>by omega⟩ QS QT rfl ?_
 rintro k ⟨hk1,hk,hI⟩ ih
 by_cases hkn:k<n
 · have a1:=hx.addrD hkn
   have c1:=hx.cellsD 0 hkn
   have c2:=hx.cellsD 0 (show k-1<n by omega)
   have hs:=hI k
   generalize hg1:xs.getD k 0=u at *
   generalize hg2:xs.getD (k-1) 0=v at *
   repeat' (first|refine QF ?_|(apply Ad (n:=4) [0,1,2,3,4,5,6,7,8,9] [(0,0),(1,0),(2,0),(3,0),(4,0),(5,0),(6,0),(7,0),(8,0),(9,0)];kernel_rfl)|(apply Bk;exact J;kernel_rfl;exact J;exact J;(first|exact QAc|(apply Cg (j:=k-1);(iterate 5 exact J);exact a1;omega;omega)|exact QAf|exact QA2);exact QA)|(refine QH ?_ ?_<;>intro hc<;>try omega)|fail)
   · (first|(apply Ac;(iterate 3 exact J)))
     rw [decide_eq_false];intro hh;have:=Bja.1 hh k QAd QAd;omega
   · have h3:=ih (k+1) ⟨by omega,by omega,fun i h0 h1 h2=>by
      by_cases e:i=k
      · subst e;rw [hg1,hg2];assumption
      · exact hI i h0 QAd h2⟩ QAd
     refine Aj QS QT (h3)
 · repeat' (first|refine QF ?_|(refine QH ?_ ?_<;>intro hc<;>try omega)|(apply Ac;(iterate 3 exact J)))
   rw [decide_eq_true];exact Bja.2 fun i h0 h1=>hI i h0 QAd h1
theorem Ixa (h:Ro)(A:Option Addr)(n c:Nat)(xs:List Int)(hx:Ar Cu 1 h A n xs)(hn:n≤9223372036854775807)(v:Int) :
  Val prog 171 #[.slice A n c,.int .i64 v] h (.bool (decide (v∈xs))):=by
 refine QXV Proofs.Tryz.func171 fun w0 X0=>?_
 have hlen:=hx.len
 repeat' (first|refine QF ?_|fail)
 refine Ai (X:=Nat) (fun k=>k≤n∧v ∉ xs.take k) (fun k=>n-k) (fun k=>[(5,.int .i64 k),(0,.slice A n c),(1,.int .i64 v)]) (fun _=>[]) (fun _=>h) 0 ⟨by omega,by simp⟩ QS QT rfl ?_
 rintro k ⟨hk,hI⟩ ih
 by_cases hkn:k<n
 · have a1:=hx.addrD hkn
   have c1:=hx.cellsD 0 hkn
   have ht:=Cb 0 hlen hkn
   have hm:=mem7 0 (show k<xs.length by omega)
   generalize xs.getD k 0=u at *
   repeat' (first|refine QF ?_|(apply Af;exact J;exact J;(first|exact QAc|exact QAf);exact QA)|(refine QH ?_ ?_<;>intro hc<;>try omega)|fail)
   all_goals first
    | ((first|(apply Ac;(iterate 3 exact J)));rw [decide_eq_true];(have e5:v=u:=by omega);rw [e5];exact hm)
    | (have h3:=ih (k+1) ⟨by omega,by rw [ht,List.mem_append,List.mem_singleton];rintro (h4|h4);exact hI h4;omega⟩ QAd
       refine Aj QS QT (h3))
 · repeat' (first|refine QF ?_|(refine QH ?_ ?_<;>intro hc<;>try omega)|(apply Ac;(iterate 3 exact J)))
   rw [List.take_of_length_le QAd] at hI
   rw [decide_eq_false hI]
open Classical in
theorem Jpa (h:Ro)(A:Option Addr)(n c:Nat)(xs:List Int)(hx:Ar Cu 1 h A n xs)(hn:n≤9223372036854775807)(lo hi:Int) :
  Val prog 318 #[.slice A n c,.int .i64 lo,.int .i64 hi] h (.bool (decide (lo≤(xs.length:Int)∧(xs.length:Int)≤hi∧∀ x∈xs,Bel x 192))):=by
 refine QXV Proofs.Tryz.func318 fun w0 X0=>?_
 have hlen:=hx.len
 repeat' (first|refine QF ?_|fail)
 refine Ai (X:=Nat) (fun k=>k≤n∧∀ x∈xs.take k,Bel x 192) (fun k=>n-k) (fun k=>[(7,.int .i64 k),(0,.slice A n c),(1,.int .i64 lo),(2,.int .i64 hi)]) (fun _=>[]) (fun _=>h) 0 ⟨by omega,by simp⟩ QS QT rfl ?_
 rintro k ⟨hk,hI⟩ ih
 by_cases hkn:k<n
 · have a1:=hx.addrD hkn
   have c1:=hx.cellsD 0 hkn
   have ht:=Cb 0 hlen hkn
   have hm:=mem7 0 (show k<xs.length by omega)
   generalize xs.getD k 0=u at *
   repeat' (first|refine QF ?_|(apply Af;exact J;exact J;(first|exact QAc|exact QAf);exact QA)|(refine QG ?_;first|(refine QDq ?_))|(refine QH ?_ ?_<;>intro hc<;>try omega)|fail)
   all_goals first
    | ((first|(apply Ac;(iterate 3 exact J)));rw [decide_eq_false];skip;grind)
    | (have h3:=ih (k+1) ⟨by omega,by rw [ht];intro x hx2;rw [List.mem_append,List.mem_singleton] at hx2;grind⟩ QAd
       refine Aj QS QT (h3))
 · rw [List.take_of_length_le QAd] at hI
   clear ih
   repeat' (first|refine QF ?_|(refine QG ?_;first|(refine QAl ?_))|(refine QH ?_ ?_<;>intro hc<;>try omega)|fail)
   all_goals (first|(apply Ac;(iterate 3 exact J)))
   all_goals (refine Bg ?_;skip;grind)
open Classical in
theorem Iba (h:Ro)(A:Option Addr)(n c:Nat)(xs:List Int)(hx:Ar Cu 1 h A n xs)(hn:n≤9223372036854775807) :
  Val prog 323 #[.slice A n c] h (.bool (decide (Lw xs))):=by
 refine QXV Proofs.Tryz.func323 fun w0 X0=>?_
 have hlen:=hx.len
 repeat' (first|refine QF ?_|fail)
 refine Ai (X:=Nat) (fun k=>k≤n∧∀ x∈xs.take k,Bel x 8192) (fun k=>n-k) (fun k=>[(3,.int .i64 k),(0,.slice A n c)]) (fun _=>[]) (fun _=>h) 0 ⟨by omega,by simp⟩ QS QT rfl ?_
 rintro k ⟨hk,hI⟩ ih
 by_cases hkn:k<n
 · have a1:=hx.addrD hkn
   have c1:=hx.cellsD 0 hkn
   have ht:=Cb 0 hlen hkn
   have hm:=mem7 0 (show k<xs.length by omega)
   generalize xs.getD k 0=u at *
   repeat' (first|refine QF ?_|(apply Af;exact J;exact J;(first|exact QAc|exact QAf);exact QA)|(refine QG ?_;first|(apply Aa;exact J;exact has283;exact Vp _ _))|(refine QH ?_ ?_<;>intro hc<;>try omega)|fail)
   all_goals first
    | ((first|(apply Ac;(iterate 3 exact J)));rw [decide_eq_false];unfold Lw;grind)
    | (have h3:=ih (k+1) ⟨by omega,by rw [ht];intro x hx2;rw [List.mem_append,List.mem_singleton] at hx2;grind⟩ QAd
       refine Aj QS QT (h3))
 · rw [List.take_of_length_le QAd] at hI
   clear ih
   repeat' (first|refine QF ?_|(refine QG ?_;first|(apply Aa;exact J;exact has319;exact incrR_c _ _ _ _ xs hx hn))|(refine QH ?_ ?_<;>intro hc<;>try omega)|refine QJ ?_|(refine QI ?_ ?_<;>intro hc<;>try omega)|fail)
   all_goals (first|(apply Ac;(iterate 3 exact J)))
   all_goals (refine Bg ?_;unfold Lw;grind)
open Classical in
theorem Jqa (h:Ro)(A:Option Addr)(n c:Nat)(l:List Dx)(hx:Ar Ox 2 h A n l)(hn:n≤9223372036854775807)(B:Option Addr)(m d:Nat)(sq:List Int)(hy:Ar Cu 1 h B m sq)(hm:m≤9223372036854775807) :
  Val prog 324 #[.slice A n c,.slice B m d] h (.bool (decide (Tg l sq))):=by
 refine QXV Proofs.Tryz.func324 fun w0 X0=>?_
 have hlen:=hx.len
 repeat' (first|refine QF ?_|fail)
 refine Ai (X:=Nat) (fun k=>k≤n∧∀ x∈l.take k,x.p∈sq) (fun k=>n-k) (fun k=>[(5,.int .i64 k),(0,.slice A n c),(1,.slice B m d)]) (fun _=>[]) (fun _=>h) 0 ⟨by omega,by simp⟩ QS QT rfl ?_
 rintro k ⟨hk,hI⟩ ih
 by_cases hkn:k<n
 · have a1:=hx.addrD hkn
   have c1:=hx.cellsD Dg hkn
   have ht:=Cb Dg hlen hkn
   have hm2:=mem7 Dg (show k<l.length by omega)
   generalize l.getD k Dg=u at *
   repeat' (first|refine QF ?_|(apply Af;exact J;exact J;(first|exact QAc|exact QAb);exact QA)|(refine QG ?_;first|(apply Aa;exact J;exact Jba;exact Ixa _ _ _ _ sq hy hm _))|(refine QH ?_ ?_<;>intro hc<;>try omega)|fail)
   all_goals first
    | ((first|(apply Ac;(iterate 3 exact J)));rw [decide_eq_false];unfold Tg;grind)
    | (have h3:=ih (k+1) ⟨by omega,by rw [ht];intro x hx2;rw [List.mem_append,List.mem_singleton] at hx2;grind⟩ QAd
       refine Aj QS QT (h3))
 · rw [List.take_of_length_le QAd] at hI
   clear ih
   repeat' (first|refine QF ?_|(refine QH ?_ ?_<;>intro hc<;>try omega)|fail)
   all_goals (first|(apply Ac;(iterate 3 exact J)))
   all_goals (refine Bg ?_;(try rw [Me]);unfold Tg;grind)
open Classical in
theorem nameR_c (h:Ro)(s:List UInt8)(hs:s.length≤9223372036854775807):Val prog 321 #[.string (str s)] h (.bool (decide (Pa s))):=by
 refine QXV Proofs.Tryz.func321 fun w0 X0=>?_
 have hz:=Nn s
 by_cases h0:s.length=0
 · repeat' (first|refine QF ?_|(refine QH ?_ ?_<;>intro hc<;>try omega)|refine QJ ?_|(refine QI ?_ ?_<;>intro hc<;>try omega)|fail)
   all_goals (try (exfalso;rw [hz] at *;omega))
   (first|(apply Ac;(iterate 3 exact J)))
   rw [decide_eq_false];rw [Fr];intro hh;omega
 by_cases h1:24<s.length
 · repeat' (first|refine QF ?_|(refine QH ?_ ?_<;>intro hc<;>try omega)|refine QJ ?_|(refine QI ?_ ?_<;>intro hc<;>try omega)|fail)
   all_goals (try (exfalso;rw [hz] at *;omega))
   (first|(apply Ac;(iterate 3 exact J)))
   rw [decide_eq_false];rw [Fr];intro hh;omega
 repeat' (first|refine QF ?_|(apply Af;exact J;exact J;(first|(apply Xh (s:=s) (j:=0);(iterate 5 exact J);omega));exact QA)|(refine QH ?_ ?_<;>intro hc<;>try omega)|refine QJ ?_|(refine QI ?_ ?_<;>intro hc<;>try omega)|fail)
 · (first|(apply Ac;(iterate 3 exact J)))
   rw [decide_eq_false];rw [Fr];intro hh;omega
 · (first|(apply Ac;(iterate 3 exact J)))
   rw [decide_eq_false];rw [Fr];intro hh;omega
 · have hw:=Fr s
   refine Ai (X:=Nat) (fun k=>k≤s.length∧∀ c∈s.take k,Uj c) (fun k=>s.length-k) (fun k=>[(3,.int .i64 k),(0,.string (str s))]) (fun _=>[]) (fun _=>h) 0 ⟨by omega,by simp⟩ QS QT rfl ?_
   rintro k ⟨hk,hI⟩ ih
   by_cases hkn:k<s.length
   · have ht:=Cb 0 rfl hkn
     have hm:=mem7 0 hkn
     have oi:∀ {C:Ctx} {l:Sl} {h:Ro} {t:TypeId} {x y:Operand} {T:Ty} {ty:TypeId} {pos:String} {aft:Array Edge} {gd:Option (Nat×Bool)} {dst:Option Tmp},By t C.ts=some T→T.desc=.string→evl l x=some (.string (str s))→evl l y=some (.int .i64 (k:Int))→OV C l [] h ⟨dst,.index t x y,ty,pos,aft,gd⟩ (.int .u8 ((s.getD k 0).toNat:Int)):=fun hT hTd hx hy=>Xh hT hTd hx hy rfl hkn
     generalize s.getD k 0=u at *
     have hno:¬ Uj u→¬ Pa s:=fun h3 h4=>h3 ((hw.1 h4).2.2.2 u hm)
     have hyes:Uj u→∀ c∈s.take (k+1),Uj c:=fun h3 c h4=>by
      rw [ht,List.mem_append,List.mem_singleton] at h4
      rcases h4 with h4|h4
      · exact hI c h4
      · rw [h4];exact h3
     unfold Uj at hno hyes
     repeat' (first|refine QF ?_|(apply Af;exact J;exact J;(first|(apply oi;(iterate 4 exact J)));exact QA)|(refine QH ?_ ?_<;>intro hc<;>try omega)|refine QJ ?_|(refine QI ?_ ?_<;>intro hc<;>try omega)|fail)
     all_goals first
      | (exfalso;rw [hz] at *;omega)
      | ((first|(apply Ac;(iterate 3 exact J)));rw [decide_eq_false];apply hno;omega)
      | (have h3:=ih (k+1) ⟨by omega,hyes QAd⟩ QAd
         refine Aj QS QT (h3))
   · rw [List.take_of_length_le QAd] at hI
     repeat' (first|refine QF ?_|(refine QH ?_ ?_<;>intro hc<;>try omega)|fail)
     all_goals (try (exfalso;rw [hz] at *;omega))
     (first|(apply Ac;(iterate 3 exact J)))
     rw [decide_eq_true];exact hw.2 ⟨by omega,by omega,⟨by omega,by omega⟩,hI⟩
open Classical in
theorem Gya (h:Ro)(s:Fsh)(x:Fct)(hx:Ar Cu 1 h s.cl.A s.cl.n x.eClubs)(hn:s.cl.n≤9223372036854775807)(hr:x.eRules.length≤9223372036854775807):Val prog 280 #[Ug s x] h (.bool (decide (Mda x))):=by
 refine QXV Proofs.Tryz.func280 fun w0 X0=>?_
 have hlen:=hx.len
 repeat' (first|refine QF ?_|(refine QB ?_;intro b)|(refine QG ?_;first|(apply Aa;exact J;exact has318;exact Jpa _ _ _ _ x.eClubs hx hn 2 24)|(apply Aa;exact J;exact has319;exact incrR_c _ _ _ _ x.eClubs hx hn)|(apply Aa;exact J;exact has321;exact nameR_c _ x.eRules hr)|(refine QEs ?_)|(refine QE5 ?_)|(apply Aa;exact J;exact has320;exact Dza _ _))|(refine QH ?_ ?_<;>intro hc<;>try omega)|refine QJ ?_|(refine QI ?_ ?_<;>intro hc<;>try omega)|fail)
 all_goals (first|(apply Ac;(iterate 3 exact J)))
 all_goals (clear hx hn hr;refine Bg ?_)
 all_goals (try rw [Dr,show (⟨#[]⟩:ByteArray).toList=[] from Dr [],beq_iff_eq])
 all_goals (unfold Mda;unfold Bel at *;grind)
open Classical in
theorem sheetR_c (h:Ro)(s:Fsh)(x:Ce)(hx:Kj h s x)(hs:Tu x):Val prog 281 #[Kq s x] h (.bool (decide (Dv x))):=by
 refine QXV Proofs.Tryz.func281 fun w0 X0=>?_
 obtain ⟨n1,n2,n3,n4⟩:=hx.small hs
 have hgc:Dh x.g→0≤x.g.c:=fun hh=>hh.2.1.1
 repeat' (first|refine QF ?_|(refine QB ?_;intro b)|(refine QG ?_;first|(apply Aa;exact J;exact Gta;exact Kn _ x.g)|(apply Aa;exact J;exact has323;first|exact Iba _ _ _ _ x.hs (hx.hs.le QAa) QAd|exact Iba _ _ _ _ x.as (hx.as.le QAa) QAd)|(apply Aa;exact J;exact has324;first|exact Jqa _ _ _ _ x.hc (hx.hc.le QAa) QAd _ _ _ x.hs (hx.hs.le QAa) QAd|exact Jqa _ _ _ _ x.ac (hx.ac.le QAa) QAd _ _ _ x.as (hx.as.le QAa) QAd)|(refine QAl ?_)|(apply Aa;exact J;exact has322;exact Jda _ _)|(apply Aa;exact J;exact has320;exact Dza _ _))|(refine QH ?_ ?_<;>intro hc<;>try omega)|refine QJ ?_|(refine QI ?_ ?_<;>intro hc<;>try omega)|fail)
 all_goals first
  | ((first|(apply Ac;(iterate 3 exact J)));clear hx hs;refine Bg ?_;unfold Dv;unfold Bel at *;grind)
  | (refine Ai (X:=Nat) (fun k=>k≤s.hs.n∧∀ p∈x.hs.take k,p ∉ x.as) (fun k=>s.hs.n-k) (fun k=>[(4,.int .i64 k),(1,.pointer (some ⟨b,0,none⟩))]) (fun _=>[Blk b 47 (Mn s x)]) (fun _=>h) 0 ⟨by omega,by simp⟩ QS QT rfl ?_
     rintro k ⟨hk,hI⟩ ih
     have hlen:=hx.hs.len
     by_cases hkn:k<s.hs.n
     · have a1:=hx.hs.addrD hkn
       have c1:=hx.hs.cellsD 0 hkn
       have ht:=Cb 0 hlen hkn
       have hm:=mem7 0 (show k<x.hs.length by omega)
       generalize x.hs.getD k 0=u at *
       repeat' (first|refine QF ?_|(apply Ad (n:=11) [0,1,2,3,4,5,6,7] [(0,0),(1,0),(2,0),(3,0),(4,0),(5,0),(6,0),(7,1)];kernel_rfl)|(apply Bk;exact J;kernel_rfl;exact J;exact J;(first|exact QAc|exact QAf);exact QA)|(apply Ao;exact J;kernel_rfl;(iterate 3 exact J);(first|(apply Aa;exact J;exact Jba;exact Ixa _ _ _ _ x.as hx.as QAd _;refine ⟨Le.refl _,QN,?_⟩)))|(refine QH ?_ ?_<;>intro hc<;>try omega)|fail)
       all_goals first
        | ((first|(apply Ac;(iterate 3 exact J)));clear hx hs;rw [decide_eq_false];unfold Dv;grind)
        | (have h3:=ih (k+1) ⟨by omega,by rw [ht];intro z hz2;rw [List.mem_append,List.mem_singleton] at hz2;grind⟩ QAd
           refine Aj QS QT (h3))
     · rw [List.take_of_length_le QAd] at hI
       clear ih
       repeat' (first|refine QF ?_|(refine QH ?_ ?_<;>intro hc<;>try omega)|fail)
       (first|(apply Ac;(iterate 3 exact J)))
       clear hx hs
       rw [decide_eq_true]
       unfold Dv;unfold Bel at *;grind)
theorem FAt.smallN {h:Ro}{s:Fsh}{x:Fct}(a:FAt h s x)(b:FSm x):s.cl.n≤9223372036854775807∧s.lo.n≤9223372036854775807∧x.eRules.length≤9223372036854775807:=by
 obtain ⟨_,_,_,_,h5,h6⟩:=a.small b
 have:=b.2.2.2
 omega
open Classical in
theorem lotR_c (h:Ro)(s:Fsh)(x:Fct)(hx:Ar Cu 1 h s.lo.A s.lo.n x.lO)(hn:s.lo.n≤9223372036854775807)(hcap:s.lo.n≤s.lo.c):Val prog 284 #[lotV s x] h (.bool (decide (Maa x))):=by
 refine QXV Proofs.Tryz.func284 fun w0 X0=>?_
 have hlen:=hx.len
 repeat' (first|refine QF ?_|(refine QB ?_;intro b)|fail)
 refine Ai (X:=Nat) (fun k=>k≤s.lo.n∧(x.lO.take k).Nodup) (fun k=>s.lo.n-k) (fun k=>[(3,.int .i64 k),(1,.pointer (some ⟨b,0,none⟩))]) (fun _=>[Blk b 53 (Bz (lotV s x))]) (fun _=>h) 0 ⟨by omega,by simp⟩ QS QT rfl ?_
 rintro k ⟨hk,hI⟩ ih
 by_cases hkn:k<s.lo.n
 · have a1:=hx.addrD hkn
   have c1:=hx.cellsD 0 hkn
   have ht:=Cb 0 hlen hkn
   have hxh:=hx.high (c:=s.lo.c) (show k≤s.lo.n by omega) hcap
   have hnd:x.lO.Nodup→(x.lO.take (k+1)).Nodup:=fun hh=>hh.sublist (List.take_sublist _ _)
   rw [ht,List.nodup_append] at hnd
   generalize x.lO.getD k 0=u at *
   repeat' (first|refine QF ?_|(apply Ad (n:=4) [0,1,2,3,4,5,6,7,8,9] [(0,0),(1,0),(2,0),(3,0),(4,0),(5,0),(6,0),(7,0),(8,0),(9,1)];kernel_rfl)|(apply Bk;exact J;kernel_rfl;exact J;exact J;(first|exact QAc|exact QAf|(apply Jc;(iterate 6 exact J);exact hk;exact hcap));exact QA)|(apply Ao;exact J;kernel_rfl;(iterate 3 exact J);(first|(apply Aa;exact J;exact Jba;exact Ixa _ _ _ _ (x.lO.take k) hxh QAd _;refine ⟨Le.refl _,QN,?_⟩)))|(refine QH ?_ ?_<;>intro hc<;>try omega)|fail)
   all_goals first
    | ((first|(apply Ac;(iterate 3 exact J)));rw [decide_eq_false];exact fun hh=>(hnd hh.2.2.2).2.2 _ hc _ (List.mem_singleton.2 rfl) rfl)
    | (have h3:=ih (k+1) ⟨by omega,by rw [ht,List.nodup_append];exact ⟨hI,by simp,fun a ha b' hb e6=>by rw [List.mem_singleton] at hb;exact hc (by rw [← hb,← e6];exact ha)⟩⟩ QAd
       refine Aj QS QT (h3))
 · rw [List.take_of_length_le QAd] at hI
   clear ih
   repeat' (first|refine QF ?_|(refine QG ?_;first|(apply Aa;exact J;exact has318;exact Jpa _ _ _ _ x.lO hx hn 2 24)|(refine QEs ?_)|(refine QE5 ?_))|(refine QH ?_ ?_<;>intro hc<;>try omega)|refine QJ ?_|(refine QI ?_ ?_<;>intro hc<;>try omega)|fail)
   all_goals (first|(apply Ac;(iterate 3 exact J)))
   all_goals (clear hx;refine Bg ?_;unfold Maa;grind)
end Go.Hw
namespace Go.Hw
open Go
attribute [local irreducible] GO GOl GDp Val Fn Res Ab Du Blk Bd Cd Bf Has
open Go.Proofs.Tryz (prog)
open Classical in
theorem rulR1_c (h:Ro)(r:Fk)(e:r.kind=1):Val prog 282 #[Lk r] h (.bool (decide (If r))):=by
 refine QXV Proofs.Tryz.func282 fun w0 X0=>?_
 have ho:Il r = { Fy r with g:=r.g,club:=r.club }:=by simp [Il,Fy,Hu,e]
 have hg:=Ej.eq_1 r
 rw [e] at hg
 repeat' (first|refine QFs ?_|(apply Af;exact J;exact J;(first|(apply Hq;exact J;exact J;exact Mp { Fy r with g:=r.g,club:=r.club } r;kernel_rfl;kernel_rfl));exact QA)|(refine QB ?_;intro b)|(refine QG ?_;first|(apply Aa;exact J;exact Gta;exact Kn _ r.g)|(refine QAl ?_))|(refine QH ?_ ?_<;>intro hc<;>try omega)|refine QJ ?_|(refine QI ?_ ?_<;>intro hc<;>try omega)|fail)
 all_goals (first|(apply Ac;(iterate 3 exact J)))
 all_goals (refine Bg ?_;unfold If;rw [ho,hg];clear ho hg;(try simp only [Ib,Me]);unfold Bel at *;grind)
open Classical in
theorem rulR2_c (h:Ro)(r:Fk)(e:r.kind=2):Val prog 282 #[Lk r] h (.bool (decide (If r))):=by
 refine QXV Proofs.Tryz.func282 fun w0 X0=>?_
 have ho:Il r = { Fy r with g:=r.g }:=by simp [Il,Fy,Hu,e]
 have hg:=Ej.eq_1 r
 rw [e] at hg
 repeat' (first|refine QFs ?_|(apply Af;exact J;exact J;(first|(apply Hq;exact J;exact J;exact Mp { Fy r with g:=r.g } r;kernel_rfl;kernel_rfl));exact QA)|(refine QB ?_;intro b)|(refine QG ?_;first|(apply Aa;exact J;exact Gta;exact Kn _ r.g)|(refine QAl ?_))|(refine QH ?_ ?_<;>intro hc<;>try omega)|refine QJ ?_|(refine QI ?_ ?_<;>intro hc<;>try omega)|fail)
 all_goals (first|(apply Ac;(iterate 3 exact J)))
 all_goals (refine Bg ?_;unfold If;rw [ho,hg];clear ho hg;(try simp only [Ib,Me]);unfold Bel at *;grind)
open Classical in
theorem rulR3_c (h:Ro)(r:Fk)(e:r.kind=3):Val prog 282 #[Lk r] h (.bool (decide (If r))):=by
 refine QXV Proofs.Tryz.func282 fun w0 X0=>?_
 have ho:Il r = { Fy r with g:=r.g,hg:=r.hg,ag:=r.ag }:=by simp [Il,Fy,Hu,e]
 have hg:=Ej.eq_1 r
 rw [e] at hg
 repeat' (first|refine QFs ?_|(apply Af;exact J;exact J;(first|(apply Hq;exact J;exact J;exact Mp { Fy r with g:=r.g,hg:=r.hg,ag:=r.ag } r;kernel_rfl;kernel_rfl));exact QA)|(refine QB ?_;intro b)|(refine QG ?_;first|(apply Aa;exact J;exact Gta;exact Kn _ r.g)|(refine QAl ?_)|(apply Aa;exact J;exact has322;exact Jda _ _))|(refine QH ?_ ?_<;>intro hc<;>try omega)|refine QJ ?_|(refine QI ?_ ?_<;>intro hc<;>try omega)|fail)
 all_goals (first|(apply Ac;(iterate 3 exact J)))
 all_goals (refine Bg ?_;unfold If;rw [ho,hg];clear ho hg;(try simp only [Ib,Me]);unfold Bel at *;grind)
open Classical in
theorem rulR4_c (h:Ro)(r:Fk)(e:r.kind=4):Val prog 282 #[Lk r] h (.bool (decide (If r))):=by
 refine QXV Proofs.Tryz.func282 fun w0 X0=>?_
 have ho:Il r = { Fy r with club:=r.club,season:=r.season,comp:=r.comp,points:=r.points }:=by simp [Il,Fy,Hu,e]
 have hg:=Ej.eq_1 r
 rw [e] at hg
 repeat' (first|refine QFs ?_|(apply Af;exact J;exact J;(first|(apply Hq;exact J;exact J;exact Mp { Fy r with club:=r.club,season:=r.season,comp:=r.comp,points:=r.points } r;kernel_rfl;kernel_rfl));exact QA)|(refine QB ?_;intro b)|(refine QG ?_;first|(refine QAl ?_)|(refine QDq ?_)|(refine QEs ?_)|(refine QE5 ?_))|(refine QH ?_ ?_<;>intro hc<;>try omega)|refine QJ ?_|(refine QI ?_ ?_<;>intro hc<;>try omega)|fail)
 all_goals (first|(apply Ac;(iterate 3 exact J)))
 all_goals (refine Bg ?_;unfold If;rw [ho,hg];clear ho hg;(try simp only [Ib,Me]);unfold Bel at *;grind)
open Classical in
theorem rulR5_c (h:Ro)(r:Fk)(e:r.kind=5):Val prog 282 #[Lk r] h (.bool (decide (If r))):=by
 refine QXV Proofs.Tryz.func282 fun w0 X0=>?_
 have ho:Il r = { Fy r with club:=r.club,lo:=r.lo,hi:=r.hi }:=by simp [Il,Fy,Hu,e]
 have hg:=Ej.eq_1 r
 rw [e] at hg
 repeat' (first|refine QFs ?_|(apply Af;exact J;exact J;(first|(apply Hq;exact J;exact J;exact Mp { Fy r with club:=r.club,lo:=r.lo,hi:=r.hi } r;kernel_rfl;kernel_rfl));exact QA)|(refine QB ?_;intro b)|(refine QG ?_;first|(apply Aa;exact J;exact has325;exact daysR_c _ r.lo r.hi)|(refine QAl ?_)|(refine QDq ?_))|(refine QH ?_ ?_<;>intro hc<;>try omega)|refine QJ ?_|(refine QI ?_ ?_<;>intro hc<;>try omega)|fail)
 all_goals (first|(apply Ac;(iterate 3 exact J)))
 all_goals (refine Bg ?_;unfold If;rw [ho,hg];clear ho hg;(try simp only [Ib,Me]);unfold Bel at *;grind)
open Classical in
theorem rulR6_c (h:Ro)(r:Fk)(e:r.kind=6):Val prog 282 #[Lk r] h (.bool (decide (If r))):=by
 refine QXV Proofs.Tryz.func282 fun w0 X0=>?_
 have ho:Il r = { Fy r with player:=r.player,lo:=r.lo,hi:=r.hi }:=by simp [Il,Fy,Hu,e]
 have hg:=Ej.eq_1 r
 rw [e] at hg
 repeat' (first|refine QFs ?_|(apply Af;exact J;exact J;(first|(apply Hq;exact J;exact J;exact Mp { Fy r with player:=r.player,lo:=r.lo,hi:=r.hi } r;kernel_rfl;kernel_rfl));exact QA)|(refine QB ?_;intro b)|(refine QG ?_;first|(apply Aa;exact J;exact has325;exact daysR_c _ r.lo r.hi)|(refine QAl ?_)|(apply Aa;exact J;exact has283;exact Vp _ _))|(refine QH ?_ ?_<;>intro hc<;>try omega)|refine QJ ?_|(refine QI ?_ ?_<;>intro hc<;>try omega)|fail)
 all_goals (first|(apply Ac;(iterate 3 exact J)))
 all_goals (refine Bg ?_;unfold If;rw [ho,hg];clear ho hg;(try simp only [Ib,Me]);unfold Bel at *;grind)
open Classical in
theorem rulR7_c (h:Ro)(r:Fk)(e:r.kind=7):Val prog 282 #[Lk r] h (.bool (decide (If r))):=by
 refine QXV Proofs.Tryz.func282 fun w0 X0=>?_
 have ho:Il r = { Fy r with club:=r.club,amount:=r.amount }:=by simp [Il,Fy,Hu,e]
 have hg:=Ej.eq_1 r
 rw [e] at hg
 repeat' (first|refine QFs ?_|(apply Af;exact J;exact J;(first|(apply Hq;exact J;exact J;exact Mp { Fy r with club:=r.club,amount:=r.amount } r;kernel_rfl;kernel_rfl));exact QA)|(refine QB ?_;intro b)|(refine QG ?_;first|(refine QAl ?_)|(refine QDq ?_))|(refine QH ?_ ?_<;>intro hc<;>try omega)|refine QJ ?_|(refine QI ?_ ?_<;>intro hc<;>try omega)|fail)
 all_goals (first|(apply Ac;(iterate 3 exact J)))
 all_goals (refine Bg ?_;unfold If;rw [ho,hg];clear ho hg;(try simp only [Ib,Me]);unfold Bel at *;grind)
open Classical in
theorem rulR8_c (h:Ro)(r:Fk)(e:r.kind=8):Val prog 282 #[Lk r] h (.bool (decide (If r))):=by
 refine QXV Proofs.Tryz.func282 fun w0 X0=>?_
 have ho:Il r=(Fy r):=by simp [Il,Fy,Hu,e]
 have hg:=Ej.eq_1 r
 rw [e] at hg
 repeat' (first|refine QFs ?_|(apply Af;exact J;exact J;(first|(apply Hq;exact J;exact J;exact Mp (Fy r) r;kernel_rfl;kernel_rfl));exact QA)|(refine QB ?_;intro b)|(refine QG ?_;first|(refine QAl ?_))|(refine QH ?_ ?_<;>intro hc<;>try omega)|refine QJ ?_|(refine QI ?_ ?_<;>intro hc<;>try omega)|fail)
 all_goals (first|(apply Ac;(iterate 3 exact J)))
 all_goals (refine Bg ?_;unfold If;rw [ho,hg];clear ho hg;(try simp only [Ib,Me]);unfold Bel at *;grind)
open Classical in
theorem rulRn_c (h:Ro)(r:Fk)(hk:¬ (1≤r.kind∧r.kind≤8)):Val prog 282 #[Lk r] h (.bool (decide (If r))):=by
 refine QXV Proofs.Tryz.func282 fun w0 X0=>?_
 have hg:=(Axa r 0 0 hk).2
 repeat' (first|refine QFs ?_|(refine QB ?_;intro b)|(refine QG ?_;first|(refine QAl ?_))|(refine QH ?_ ?_<;>intro hc<;>try omega)|refine QJ ?_|(refine QI ?_ ?_<;>intro hc<;>try omega)|fail)
 all_goals (first|(apply Ac;(iterate 3 exact J)))
 all_goals (rw [decide_eq_false];exact fun hh=>hg hh.2.2.2.2.1)
open Classical in
theorem rulingR_c (h:Ro)(r:Fk):Val prog 282 #[Lk r] h (.bool (decide (If r))):=by
 by_cases hk:1≤r.kind∧r.kind≤8
 · have:r.kind=1∨r.kind=2∨r.kind=3∨r.kind=4∨r.kind=5∨r.kind=6∨r.kind=7∨r.kind=8:=by omega
   rcases this with e|e|e|e|e|e|e|e
   · exact rulR1_c h r e
   · exact rulR2_c h r e
   · exact rulR3_c h r e
   · exact rulR4_c h r e
   · exact rulR5_c h r e
   · exact rulR6_c h r e
   · exact rulR7_c h r e
   · exact rulR8_c h r e
 · exact rulRn_c h r hk
open Classical in
theorem Lta (h:Ro)(s:Fsh)(f:Fct)(hf:FAt h s f)(hs:FSm f):Val prog 217 #[Br s f] h (.bool (decide (Cw f))):=by
 refine QXV Proofs.Tryz.func217 fun w0 X0=>?_
 obtain ⟨q1,q2,q3⟩:=hf.smallN hs
 have hcap:=hf.lc
 have hg:=Cw.eq_1 f
 repeat' (first|refine QF ?_|(refine QB ?_;intro b)|(refine QG ?_;first|(apply Aa;exact J;exact Gta;exact Kn _ f.fg)|(apply Aa;exact J;exact has280;exact Gya _ s f hf.cl q1 q3)|(apply Aa;exact J;exact has281;exact sheetR_c _ s f.sh hf.sh hs.1)|(apply Aa;exact J;exact has282;exact rulingR_c _ f.ru)|(apply Aa;exact J;exact has284;exact lotR_c _ s f hf.lo q2 hcap)|(refine QAl ?_)|(apply Aa;exact J;exact has283;exact Vp _ _))|(refine QH ?_ ?_<;>intro hc<;>try omega)|refine QJ ?_|(refine QI ?_ ?_<;>intro hc<;>try omega)|fail)
 all_goals (first|(apply Ac;(iterate 3 exact J)))
 all_goals (clear hf hs;refine Bg ?_;rw [hg];clear hg;(try simp only [Ib]);unfold Bel at *;grind)
theorem onlyR1_c (h:Ro)(s:Fsh)(f:Fct)(e:f.kind=1):Val prog 218 #[Br s f] h (Br { Ga with cl:=s.cl } { Ca f with eS:=f.eS,eC:=f.eC,eClubs:=f.eClubs,eRules:=f.eRules }):=by
 refine QXV Proofs.Tryz.func218 fun w0 X0=>?_
 repeat' (first|refine QFs ?_|(refine QB ?_;intro b)|(refine QH ?_ ?_<;>intro hc<;>try omega)|fail)
 exact Ct rfl rfl rfl QM rfl rfl rfl
theorem onlyR2_c (h:Ro)(s:Fsh)(f:Fct)(e:f.kind=2):Val prog 218 #[Br s f] h (Br Ga { Ca f with fg:=f.fg,venue:=f.venue }):=by
 refine QXV Proofs.Tryz.func218 fun w0 X0=>?_
 repeat' (first|refine QFs ?_|(refine QB ?_;intro b)|(refine QH ?_ ?_<;>intro hc<;>try omega)|fail)
 exact Ct rfl rfl rfl QM rfl rfl rfl
theorem onlyR3_c (h:Ro)(s:Fsh)(f:Fct)(e:f.kind=3):Val prog 218 #[Br s f] h (Br { Ga with hs:=s.hs,«as»:=s.as,hc:=s.hc,ac:=s.ac } { Ca f with sh:=f.sh }):=by
 refine QXV Proofs.Tryz.func218 fun w0 X0=>?_
 repeat' (first|refine QFs ?_|(refine QB ?_;intro b)|(refine QH ?_ ?_<;>intro hc<;>try omega)|fail)
 exact Ct rfl rfl rfl QM rfl rfl rfl
theorem onlyR4_c (h:Ro)(s:Fsh)(f:Fct)(e:f.kind=4):Val prog 218 #[Br s f] h (Br Ga { Ca f with ru:=f.ru }):=by
 refine QXV Proofs.Tryz.func218 fun w0 X0=>?_
 repeat' (first|refine QFs ?_|(refine QB ?_;intro b)|(refine QH ?_ ?_<;>intro hc<;>try omega)|fail)
 exact Ct rfl rfl rfl QM rfl rfl rfl
theorem onlyR5_c (h:Ro)(s:Fsh)(f:Fct)(e:f.kind=5):Val prog 218 #[Br s f] h (Br Ga { Ca f with aCase:=f.aCase,aInst:=f.aInst,aSusp:=f.aSusp }):=by
 refine QXV Proofs.Tryz.func218 fun w0 X0=>?_
 repeat' (first|refine QFs ?_|(refine QB ?_;intro b)|(refine QH ?_ ?_<;>intro hc<;>try omega)|fail)
 exact Ct rfl rfl rfl QM rfl rfl rfl
theorem onlyR6_c (h:Ro)(s:Fsh)(f:Fct)(e:f.kind=6):Val prog 218 #[Br s f] h (Br Ga { Ca f with mP:=f.mP,mTo:=f.mTo }):=by
 refine QXV Proofs.Tryz.func218 fun w0 X0=>?_
 repeat' (first|refine QFs ?_|(refine QB ?_;intro b)|(refine QH ?_ ?_<;>intro hc<;>try omega)|fail)
 exact Ct rfl rfl rfl QM rfl rfl rfl
theorem onlyR7_c (h:Ro)(s:Fsh)(f:Fct)(e:f.kind=7):Val prog 218 #[Br s f] h (Br { Ga with lo:=s.lo } { Ca f with lS:=f.lS,lC:=f.lC,lO:=f.lO }):=by
 refine QXV Proofs.Tryz.func218 fun w0 X0=>?_
 repeat' (first|refine QFs ?_|(refine QB ?_;intro b)|(refine QH ?_ ?_<;>intro hc<;>try omega)|fail)
 exact Ct rfl rfl rfl QM rfl rfl rfl
theorem onlyR8_c (h:Ro)(s:Fsh)(f:Fct)(e:f.kind=8):Val prog 218 #[Br s f] h (Br Ga { Ca f with void:=f.void }):=by
 refine QXV Proofs.Tryz.func218 fun w0 X0=>?_
 repeat' (first|refine QFs ?_|(refine QB ?_;intro b)|(refine QH ?_ ?_<;>intro hc<;>try omega)|fail)
 exact Ct rfl rfl rfl QM rfl rfl rfl
theorem onlyR_c (s:Fsh)(f:Fct)(hs:FSm f)(hk:1≤f.kind∧f.kind≤8):∃ s',((∀ h',FAt h' s f→FAt h' s' (Lo f))∧FSm (Lo f))∧∀ h,Val prog 218 #[Br s f] h (Br s' (Lo f)):=by
 have mk:∀ {s':Fsh} {x:Fct},x=Lo f→((∀ h',FAt h' s f→FAt h' s' x)∧FSm x)→(∀ h,Val prog 218 #[Br s f] h (Br s' x))→∃ s',((∀ h',FAt h' s f→FAt h' s' (Lo f))∧FSm (Lo f))∧∀ h,Val prog 218 #[Br s f] h (Br s' (Lo f)):=fun e a b=>⟨_,e ▸ a,e ▸ b⟩
 have:f.kind=1∨f.kind=2∨f.kind=3∨f.kind=4∨f.kind=5∨f.kind=6∨f.kind=7∨f.kind=8:=by omega
 rcases this with e|e|e|e|e|e|e|e
 · exact mk (s':={ Ga with cl:=s.cl }) (x:={ Ca f with eS:=f.eS,eC:=f.eC,eClubs:=f.eClubs,eRules:=f.eRules }) QA7 (⟨fun h' a=>⟨⟨Ar.nil,Ar.nil,Ar.nil,Ar.nil⟩,a.cl,Ar.nil,rfl,Nat.le_refl _⟩,Qi,hs.2.1,by simp [Ca,Ef],hs.2.2.2⟩) (fun h=>onlyR1_c h s f e)
 · exact mk (s':=Ga) (x:={ Ca f with fg:=f.fg,venue:=f.venue }) QA7 (⟨fun h' a=>⟨Kj.nil h',Ar.nil,Ar.nil,rfl,Nat.le_refl _⟩,Qi,by simp [Ca,Ef],by simp [Ca,Ef],by simp [Ca,Ef]⟩) (fun h=>onlyR2_c h s f e)
 · exact mk (s':={ Ga with hs:=s.hs,«as»:=s.as,hc:=s.hc,ac:=s.ac }) (x:={ Ca f with sh:=f.sh }) QA7 (⟨fun h' a=>⟨⟨a.sh.hs,a.sh.as,a.sh.hc,a.sh.ac⟩,Ar.nil,Ar.nil,rfl,Nat.le_refl _⟩,hs.1,by simp [Ca,Ef],by simp [Ca,Ef],by simp [Ca,Ef]⟩) (fun h=>onlyR3_c h s f e)
 · exact mk (s':=Ga) (x:={ Ca f with ru:=f.ru }) QA7 (⟨fun h' a=>⟨Kj.nil h',Ar.nil,Ar.nil,rfl,Nat.le_refl _⟩,Qi,by simp [Ca,Ef],by simp [Ca,Ef],by simp [Ca,Ef]⟩) (fun h=>onlyR4_c h s f e)
 · exact mk (s':=Ga) (x:={ Ca f with aCase:=f.aCase,aInst:=f.aInst,aSusp:=f.aSusp }) QA7 (⟨fun h' a=>⟨Kj.nil h',Ar.nil,Ar.nil,rfl,Nat.le_refl _⟩,Qi,by simp [Ca,Ef],by simp [Ca,Ef],by simp [Ca,Ef]⟩) (fun h=>onlyR5_c h s f e)
 · exact mk (s':=Ga) (x:={ Ca f with mP:=f.mP,mTo:=f.mTo }) QA7 (⟨fun h' a=>⟨Kj.nil h',Ar.nil,Ar.nil,rfl,Nat.le_refl _⟩,Qi,by simp [Ca,Ef],by simp [Ca,Ef],by simp [Ca,Ef]⟩) (fun h=>onlyR6_c h s f e)
 · exact mk (s':={ Ga with lo:=s.lo }) (x:={ Ca f with lS:=f.lS,lC:=f.lC,lO:=f.lO }) QA7 (⟨fun h' a=>⟨⟨Ar.nil,Ar.nil,Ar.nil,Ar.nil⟩,Ar.nil,a.lo,rfl,a.lc⟩,Qi,by simp [Ca,Ef],hs.2.2.1,by simp [Ca,Ef]⟩) (fun h=>onlyR7_c h s f e)
 · exact mk (s':=Ga) (x:={ Ca f with void:=f.void }) QA7 (⟨fun h' a=>⟨Kj.nil h',Ar.nil,Ar.nil,a.void,Nat.le_refl _⟩,Qi,by simp [Ca,Ef],by simp [Ca,Ef],by simp [Ca,Ef]⟩) (fun h=>onlyR8_c h s f e)
open Classical in
theorem Bxa (h:Ro)(s:Fsh)(f:Fct)(hf:FAt h s f)(hs:FSm f):Val prog 169 #[Br s f] h (.int .i64 (if Bm f then 0 else 70)):=by
 refine QXV Proofs.Tryz.func169 fun w0 X0=>?_
 have hco:=fun h' (hle:Le h h')=>Lta h' s f (hf.le hle) hs
 by_cases hk:1≤f.kind∧f.kind≤8
 · obtain ⟨s',⟨hat,hsm⟩,hfn⟩:=onlyR_c s f hs hk
   repeat' (first|refine QF ?_|(refine QB ?_;intro b)|(apply Ad (n:=1) [0,1,2,3,4,5,6,7,8,9,10,11,12,13,14,15,16,17,18,19,20,21] [(0,0),(1,0),(2,1),(3,0),(4,0),(5,0),(6,0),(7,1),(8,0),(9,0),(10,0),(11,0),(12,1),(13,0),(14,0),(15,0),(16,0),(18,0),(17,1),(19,1),(20,0),(21,0)];kernel_rfl)|(apply Ao;exact J;kernel_rfl;(iterate 3 exact J);(first|(apply Aa;exact J;exact has217;exact hco _ QAa;refine ⟨Le.refl _,QN,?_⟩)|(apply Aa;exact J;exact has218;exact hfn _;refine ⟨Le.refl _,QN,?_⟩)|(apply Aa;exact J;exact has170;exact sameR_c _ s' (Lo f) (hat _ (hf.le QAa)) hsm s f (hf.le QAa) hs;refine ⟨Le.refl _,QN,?_⟩)|(apply Aa;exact J;exact has216;exact dayR_c _ _;refine ⟨Le.refl _,QN,?_⟩)))|(apply Bq;(iterate 5 exact J);all_goals (intro hc;try simp only [hcS,reduceCtorEq] at hc;try omega))|(refine QH ?_ ?_<;>intro hc<;>try omega)|(apply Rp;exact J;kernel_rfl;exact J;exact J))
   all_goals (first|(apply Ac;(iterate 3 exact J)))
   all_goals (first|(rw [if_pos (show Bm f from by unfold Bm;grind)];done)|(rw [if_neg (show ¬ Bm f from by unfold Bm;grind)];done))
 · have hn:=(Jz f hk).2
   have hco2:∀ h',Le h h'→Val prog 217 #[Br s f] h' (.bool false):=fun h' hle=>by
    have:=hco h' hle;rwa [decide_eq_false hn] at this
   repeat' (first|refine QF ?_|(refine QB ?_;intro b)|(apply Ad (n:=1) [0,1,2,3,4,5,6,7,8,9,10,11,12,13,14,15,16,17,18,19,20,21] [(0,0),(1,0),(2,1),(3,0),(4,0),(5,0),(6,0),(7,1),(8,0),(9,0),(10,0),(11,0),(12,1),(13,0),(14,0),(15,0),(16,0),(18,0),(17,1),(19,1),(20,0),(21,0)];kernel_rfl)|(apply Ao;exact J;kernel_rfl;(iterate 3 exact J);(first|(apply Aa;exact J;exact has217;exact hco2 _ QAa;refine ⟨Le.refl _,QN,?_⟩)|(apply Aa;exact J;exact has216;exact dayR_c _ _;refine ⟨Le.refl _,QN,?_⟩)))|(apply Bq;(iterate 5 exact J);all_goals (intro hc;try simp only [hcS,reduceCtorEq] at hc;try omega))|(refine QH ?_ ?_<;>intro hc<;>try omega)|(apply Rp;exact J;kernel_rfl;exact J;exact J))
   all_goals (first|(apply Ac;(iterate 3 exact J)))
   all_goals (rw [if_neg (show ¬ Bm f from fun hh=>hn hh.2.2.1)])
end Go.Hw

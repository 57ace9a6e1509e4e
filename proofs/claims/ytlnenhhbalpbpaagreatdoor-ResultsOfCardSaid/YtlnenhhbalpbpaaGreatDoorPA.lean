import Derived.Test.YtlnenhhbalpbpaaGreatDoorVD
import Derived.Test.YtlnenhhbalpbpaaGreatDoorXC
import Derived.Test.YtlnenhhbalpbpaaGreatDoorHD
import Derived.Test.YtlnenhhbalpbpaaGreatDoorFH
import Derived.Test.YtlnenhhbalpbpaaGreatDoorFE
import Derived.Test.YtlnenhhbalpbpaaGreatDoorBA
import Derived.Test.YtlnenhhbalpbpaaGreatDoorVF
set_option linter.all false
set_option maxRecDepth 100000
set_option maxHeartbeats 8000000
namespace Go.Hw
open Go
attribute [local irreducible] GO GOl GDp Val Fn Res Ab Du Blk Bd Cd Bf Has Yl Ik Bn Lt Kk Ew Up Db Gq
open Go.Proofs.Tryz (prog)
theorem Jra (h:Ro)(A:Option Addr)(n c:Nat)(l:List Dx)(hx:Ar Ox 2 h A n l)(hn:n≤1000000):Val prog 65 #[.slice A n c] h (.int .i64 (Gq l)):=by
 refine QXV Proofs.Tryz.func65 fun w0 X0=>?_
 have hlen:=hx.len
 repeat' (first|refine QF ?_|fail)
 refine Ai (X:=Nat) (fun k=>k≤n) (fun k=>n-k) (fun k=>[(7,.int .i64 k),(6,.int .i64 n),(5,.slice A n c),(2,.int .i64 (Gq (l.take k)))]) (fun _=>[]) (fun _=>h) 0 QAd (by rw [List.take_zero,show Gq []=0 by unfold Gq;rfl];exact QS) QT rfl ?_
 rintro k hk ih
 by_cases hkn:k<n
 · have a1:=hx.addrD hkn
   have c1:Ab h ((addrD A).add (k * Kga.size)) (Ox (l.getD k Dg)):=hx.cellsD Dg hkn
   have et:=Cb Dg (xs:=l) hlen hkn
   generalize l.getD k Dg=z at *
   have h3:=ih (k+1) QAd QAd
   rw [et,Sp] at h3
   have hb:=Jta (l.take k)
   rw [List.length_take] at hb
   generalize Gq (l.take k)=m at *
   obtain ⟨zp,zr⟩:=z
   unfold Exa at h3
   cases zr
   · rw [if_neg QAn] at h3
     repeat' (first|refine QC ?_|(apply Bo;(iterate 3 exact J);apply At (e:=128);exact J;intro bc)|refine QDs ?_|(apply Af;exact J;exact J;(first|exact QAc|exact QAf);exact QA)|(refine QH ?_ ?_<;>intro hc<;>try omega)|fail)
     all_goals first
      | (exfalso;omega)
      | (exfalso;simp at hc;done)
      | (refine Aj QS QT (h3))
   · rw [if_pos rfl] at h3
     repeat' (first|refine QC ?_|(apply Bo;(iterate 3 exact J);apply At (e:=128);exact J;intro bc)|refine QDs ?_|(apply Af;exact J;exact J;(first|exact QAc|exact QAf);exact QA)|(refine QH ?_ ?_<;>intro hc<;>try omega)|fail)
     all_goals first
      | (exfalso;omega)
      | (exfalso;simp at hc;done)
      | (refine Aj QS QT (h3))
 · rw [List.take_of_length_le QAd]
   clear ih
   repeat' (first|refine QF ?_|(refine QH ?_ ?_<;>intro hc<;>try omega)|(apply Ac;(iterate 3 exact J)))
   all_goals first
    | (exfalso;omega)
    | rfl
theorem E3a (h:Ro)(g:Ak)(d:Int)(a b:Bool):Val prog 62 #[De g,.int .i64 d,.bool a,.bool b] h (Kta (Gz g d a b)):=by
 refine QXV Proofs.Tryz.func62 fun w0 X0=>?_
 cases a
 all_goals cases b
 all_goals (repeat' (first|refine QFs ?_|(refine QB ?_;intro b)|(refine QH ?_ ?_<;>intro hc<;>try omega)|(apply Ct;(iterate 3 exact J);exact QM;exact J;exact J)|fail))
 all_goals first
  | rfl
  | (exfalso;simp at hc;done)
theorem eff1_c (h:Ro)(g:Ak)(r:Fk)(d:Int):Val prog 61 #[De g,Lk r,.int .i64 d] h (.tuple #[Kta (Gz g d (decide (r.club=g.h)) (decide (r.club=g.a))),.bool true]):=by
 refine QXV Proofs.Tryz.func61 fun w0 X0=>?_
 rw [← Fe,← Fe]
 repeat' (first|refine QFs ?_|(refine QB ?_;intro b)|(refine QG ?_;first|(apply Aa;exact J;exact has62;exact E3a _ g d _ _))|(apply Rs;(iterate 3 exact J);exact QM;(iterate 3 exact J))|fail)
 all_goals first
  | rfl
theorem eff2_c (h:Ro)(g:Ak)(r:Fk)(d:Int):Val prog 63 #[De g,Lk r,.int .i64 d] h (.tuple #[Kta Aza,.bool false]):=by
 refine QXV Proofs.Tryz.func63 fun w0 X0=>?_
 repeat' (first|refine QFs ?_|(refine QB ?_;intro b)|(apply Rs;(iterate 3 exact J);exact QM;(iterate 3 exact J))|fail)
 all_goals first
  | rfl
theorem eff3_c (h:Ro)(g:Ak)(r:Fk)(d:Int):Val prog 64 #[De g,Lk r,.int .i64 d] h (.tuple #[Kta { Aza with g:=g,day:=d,hg:=r.hg,ag:=r.ag },.bool true]):=by
 refine QXV Proofs.Tryz.func64 fun w0 X0=>?_
 repeat' (first|refine QFs ?_|(refine QB ?_;intro b)|(apply Rs;(iterate 3 exact J);exact QM;(iterate 3 exact J))|fail)
 all_goals first
  | rfl
def effV:Option Nat→Value
 | none=>.nilFunc
 | some f=>.func (.func f) #[] #[]
def effL:List (Int×Option Nat):=Im 3 (some 64) (Im 2 (some 63) (Im 1 (some 61) []))
def effF (k:Int):Option Nat:=if k=1 then some 61 else if k=2 then some 63 else if k=3 then some 64 else none
theorem effL_look (k:Int):(Cf k effL).getD none=effF k:=by
 unfold effL effF
 rw [Si,Si,Si]
 by_cases h3:(3:Int)=k
 · subst h3;simp
 · by_cases h2:(2:Int)=k
   · subst h2;simp
   · by_cases h1:(1:Int)=k
     · subst h1;simp
     · rw [if_neg h3,if_neg h2,if_neg h1,if_neg (Ne.symm h1),if_neg (Ne.symm h2),if_neg (Ne.symm h3)];rfl
theorem effects_c (h:Ro):Fn prog 27 #[] [] h fun v Es h'=>∃ bm,v=.map (some bm)∧Es=[Cd ekN effV bm effL]:=by
 refine QXF Proofs.Tryz.func27 fun w0 X0=>?_
 have hK:=KN
 repeat' (first|refine QF ?_|(refine QG ?_;first|(apply Eu ekN effV;intro bm)|(apply Ly (ek:=ekN) (ev:=effV) (b:=bm) hK (u:=some 61);(iterate 6 exact J);exact QR)|(apply Ly (ek:=ekN) (ev:=effV) (b:=bm) hK (u:=some 63);(iterate 6 exact J);exact QR)|(apply Ly (ek:=ekN) (ev:=effV) (b:=bm) hK (u:=some 64);(iterate 6 exact J);exact QR))|fail)
 all_goals first
  | (exact Bi rfl rfl rfl QAk ⟨_,rfl,rfl⟩)
theorem Yr {L:List Fct}{g:Ak}(h:(Bj L g).kind≠2):Hk L g=none:=by unfold Hk;rw [if_neg h]
theorem Vr {L:List Fct}{g:Ak}{x:Az}{o:List Int×List Int}(hx:Bj L g=x)(ho:Up L g=o)(h:x.kind=2):Hk L g=some (A3a g x o):=by unfold Hk;rw [hx,if_pos h,ho]
theorem played_c (h:Ro)(hG:Iv h)(A:Option Addr)(n c:Nat)(l:List (Fsh×Fct))(hx:Au h A n l)(hn6:n≤65536)(g:Ak):Res prog 28 #[.slice A n c,De g] h (fun u _=>u=resO (Hk (fcs l) g)):=by
 refine QXR Proofs.Tryz.func28 fun w0 X0=>?_
 have h32:=Fa hx
 have hsc:=fun h' (hl:Le h h')=>Ava h' (hG.le hl) A n c l (hx.le hl) g
 have hof:=fun h' (hl:Le h h')=>Hna h' (hG.le hl) A n c l (hx.le hl) hn6 g
 have hno:=Yr (L:=fcs l) (g:=g)
 have hyes:=fun x o=>Vr (L:=fcs l) (g:=g) (x:=x) (o:=o)
 have hbd:=fun q=>Ida h32 (g:=g) q
 have hol:=Isa h32 g
 rw [show Oa l=fcs l from rfl] at hsc
 generalize Bj (fcs l) g=x at *
 generalize Up (fcs l) g=o at *
 clear hx h32
 by_cases hk2:x.kind=2
 case' neg =>
  rw [hno hk2]
  clear hof hyes hbd hol
  repeat' (first|refine QC ?_|(apply Bo;(iterate 3 exact J);apply Dj (e:=24);exact J;intro b3)|(apply Bo;(iterate 3 exact J);apply At (e:=62);exact J;intro b6)|refine QDs ?_|(refine QB ?_;intro b)|(refine QG ?_;first|(refine QAv ?_;rintro w2 h2 hle2 ⟨s,rfl,hs1,hs2⟩))|(refine QH ?_ ?_<;>intro hc<;>try omega)|fail)
  all_goals first
   | (exfalso;omega)
   | (exact Dw rfl rfl rfl QM rfl rfl rfl rfl)
   | (exact Cs rfl rfl rfl rfl rfl)
 rw [hyes x o rfl rfl hk2]
 obtain ⟨⟨_,_,_,_,_,_,_,hq5,hq6,_⟩,_,_⟩:=hbd hk2
 have hl5:=hq5.1
 have hl6:=hq6.1
 obtain ⟨o1,o2⟩:=o
 unfold J4a at hof
 dsimp only at hof hol
 unfold A3a
 dsimp only
 by_cases he:o1=[]∧o2=[]
 · rw [if_pos he]
   obtain ⟨rfl,rfl⟩:=he
   clear hno hyes hbd
   repeat' (first|refine QC ?_|(apply Bo;(iterate 3 exact J);apply Dj (e:=24);exact J;intro b3)|(apply Bo;(iterate 3 exact J);apply At (e:=62);exact J;intro b6)|(apply Bo;(iterate 3 exact J);apply At (e:=47);exact J;intro b7)|refine QDs ?_|(refine QB ?_;intro b)|(refine QG ?_;first|(refine QAv ?_;rintro w2 h2 hle2 ⟨s,rfl,hs1,hs2⟩;(have hn1:=hs1.hc.len);(have hn2:=hs1.ac.len))|(refine QEw ?_;rintro v1 e1 he1 ⟨A1,d1,A2,d2,rfl,hO1,hO2⟩))|(apply Ad (n:=8) [0,1,2,3,4,5,6,7,8,9,10,11,12,13,14,15,16,17,18,19] [(0,0),(1,0),(2,0),(3,0),(4,0),(5,0),(6,0),(7,0),(8,0),(9,0),(10,0),(11,0),(12,0),(14,0),(15,0),(13,1),(16,1),(17,0),(18,1),(19,0)];kernel_rfl)|(apply Ao;exact J;kernel_rfl;(iterate 3 exact J);(first|(apply Aa;exact J;exact has65;(first|exact Jra _ _ _ _ x.sh.hc (hs1.hc.le QAa) QAd|exact Jra _ _ _ _ x.sh.ac (hs1.ac.le QAa) QAd);refine ⟨Le.refl _,QN,?_⟩)))|(refine QH ?_ ?_<;>intro hc<;>try omega)|fail)
   all_goals first
    | (exfalso;omega)
    | (exfalso;simp at hc;done)
    | (exact Dw rfl rfl rfl QM rfl rfl rfl rfl)
    | (exact Cs rfl rfl rfl rfl rfl)
 · rw [if_neg he]
   have hp:0<o1.length+o2.length:=by
    refine Classical.byContradiction fun w=>he ⟨List.eq_nil_of_length_eq_zero QAd,List.eq_nil_of_length_eq_zero QAd⟩
   have q1:decide (o1≠[])=ltI 0 (o1.length:Int):=by cases o1 <;> simp [ltI]
   have q2:decide (o2≠[])=ltI 0 (o2.length:Int):=by cases o2 <;> simp [ltI]
   rw [q1,q2]
   clear hno hyes hbd he q1 q2
   repeat' (first|refine QC ?_|(apply Bo;(iterate 3 exact J);apply Dj (e:=24);exact J;intro b3)|(apply Bo;(iterate 3 exact J);apply At (e:=62);exact J;intro b6)|refine QDs ?_|(refine QB ?_;intro b)|(refine QG ?_;first|(refine QAv ?_;rintro w2 h2 hle2 ⟨s,rfl,hs1,hs2⟩)|(refine QEw ?_;rintro v1 e1 he1 ⟨A1,d1,A2,d2,rfl,hO1,hO2⟩)|(apply Aa;exact J;exact has62;exact E3a _ g x.day _ _))|(refine QH ?_ ?_<;>intro hc<;>try omega)|fail)
   all_goals first
    | (exfalso;omega)
    | (exfalso;simp at hc;done)
    | (exact Dw rfl rfl rfl QM rfl rfl rfl rfl)
    | (exact Cs rfl rfl rfl rfl rfl)
theorem ofF_bad {L:List Fct}{g:Ak}(h:¬ Dh g):ofF L g=none:=by unfold ofF;rw [if_neg h]
theorem Tx (h:Ro)(hG:Iv h)(A:Option Addr)(n c:Nat)(l:List (Fsh×Fct))(hx:Au h A n l)(hn6:n≤65536)(g:Ak):Res prog 10 #[.slice A n c,De g] h (fun u _=>u=resO (ofF (fcs l) g)):=by
 refine QXR Proofs.Tryz.func10 fun w0 X0=>?_
 have h32:=Fa hx
 have hgm:=fun h'=>Wm h' g
 have hog:=fun h' (hl:Le h h')=>OfGame_c h' (hG.le hl) A n c l (hx.le hl) g
 have hpl:=fun h' (hl:Le h h')=>played_c h' (hG.le hl) A n c l (hx.le hl) hn6 g
 have hsome:=Pj (C:=Ba (fcs l)) (Oc h32) (g:=g)
 by_cases hg:Dh g
 · simp only [if_pos hg] at hgm
   have hru:=fun r d q=>Qn (L:=fcs l) hg (r:=r) (d:=d) q
   have hpy:=fun q=>Iz (L:=fcs l) hg q
   generalize Db (Ba (fcs l)) g=oo at *
   obtain ⟨r,d,ok⟩:=oo
   dsimp only at hog hpy hsome
   clear hx h32
   cases ok
   · rw [hpy rfl]
     generalize Hk (fcs l) g=pf at *
     clear hru hpy hsome
     repeat' (first|refine QFs ?_|(refine QB ?_;intro b)|(refine QG ?_;first|(refine QCf ?_)|(refine QBd ?_;rintro v1 h1 hle1 rfl)|(apply Ag;exact J;exact has28;exact hpl _ QAa;rintro v2 h2 hle2 rfl))|(refine QH ?_ ?_<;>intro hc<;>try omega)|fail)
     all_goals first
      | (exfalso;omega)
      | (exfalso;simp at hc;done)
      | (exact Dw rfl rfl rfl QM rfl rfl rfl rfl)
      | (exact Cs rfl rfl rfl rfl rfl)
   · rw [hru r d rfl]
     obtain ⟨f,_,_,_,_,hab,_,hfe⟩:=hsome rfl
     have hk:r.kind=1∨r.kind=2∨r.kind=3:=by
      have:=congrArg (·.1) hfe
      dsimp only at this
      rw [this];exact hab.2
     have hlk:=effL_look r.kind
     clear hru hpy hsome hpl hab hfe
     unfold effF at hlk
     unfold Iga
     rcases hk with hk|hk|hk
     · rw [if_pos hk] at hlk ⊢
       repeat' (first|refine QC ?_|(apply Bo;(iterate 3 exact J);apply Dj (e:=24);exact J;intro b3)|(apply Bo;(iterate 3 exact J);apply At (e:=28);exact J;intro b4)|(apply Bo;(iterate 3 exact J);apply At (e:=39);exact J;intro b6)|refine QDs ?_|(refine QG ?_;first|(refine QCf ?_)|(refine QBd ?_;rintro v1 h1 hle1 rfl)|(apply Cr;exact J;exact J;exact has61;exact eff1_c _ g r d))|(apply Ad (n:=5) [0,1,2,3,4] [(1,0),(2,0),(0,1),(3,0),(4,0)];kernel_rfl)|(apply Bk;exact J;kernel_rfl;exact J;exact J;(first|exact QCl);exact QA)|(apply Ao;exact J;kernel_rfl;(iterate 3 exact J);(first|(refine QFe ?_;rintro v7 E7 h7 hle7 ⟨bm,rfl,rfl⟩;refine ⟨hle7,QN,?_⟩)))|(refine QH ?_ ?_<;>intro hc<;>try omega)|fail)
       all_goals first
        | (exfalso;omega)
        | (exfalso;simp at hc;done)
        | (exact Dw rfl rfl rfl QM rfl rfl rfl rfl)
     · rw [if_neg QAd,if_pos hk] at hlk
       rw [if_neg QAd,if_neg QAd]
       repeat' (first|refine QC ?_|(apply Bo;(iterate 3 exact J);apply Dj (e:=24);exact J;intro b3)|(apply Bo;(iterate 3 exact J);apply At (e:=28);exact J;intro b4)|(apply Bo;(iterate 3 exact J);apply At (e:=39);exact J;intro b6)|refine QDs ?_|(refine QG ?_;first|(refine QCf ?_)|(refine QBd ?_;rintro v1 h1 hle1 rfl)|(apply Cr;exact J;exact J;exact has63;exact eff2_c _ g r d))|(apply Ad (n:=5) [0,1,2,3,4] [(1,0),(2,0),(0,1),(3,0),(4,0)];kernel_rfl)|(apply Bk;exact J;kernel_rfl;exact J;exact J;(first|exact QCl);exact QA)|(apply Ao;exact J;kernel_rfl;(iterate 3 exact J);(first|(refine QFe ?_;rintro v7 E7 h7 hle7 ⟨bm,rfl,rfl⟩;refine ⟨hle7,QN,?_⟩)))|(refine QH ?_ ?_<;>intro hc<;>try omega)|fail)
       all_goals first
        | (exfalso;omega)
        | (exfalso;simp at hc;done)
        | (exact Dw rfl rfl rfl QM rfl rfl rfl rfl)
     · rw [if_neg QAd,if_neg QAd,if_pos hk] at hlk
       rw [if_neg QAd,if_pos hk]
       repeat' (first|refine QC ?_|(apply Bo;(iterate 3 exact J);apply Dj (e:=24);exact J;intro b3)|(apply Bo;(iterate 3 exact J);apply At (e:=28);exact J;intro b4)|(apply Bo;(iterate 3 exact J);apply At (e:=39);exact J;intro b6)|refine QDs ?_|(refine QG ?_;first|(refine QCf ?_)|(refine QBd ?_;rintro v1 h1 hle1 rfl)|(apply Cr;exact J;exact J;exact has64;exact eff3_c _ g r d))|(apply Ad (n:=5) [0,1,2,3,4] [(1,0),(2,0),(0,1),(3,0),(4,0)];kernel_rfl)|(apply Bk;exact J;kernel_rfl;exact J;exact J;(first|exact QCl);exact QA)|(apply Ao;exact J;kernel_rfl;(iterate 3 exact J);(first|(refine QFe ?_;rintro v7 E7 h7 hle7 ⟨bm,rfl,rfl⟩;refine ⟨hle7,QN,?_⟩)))|(refine QH ?_ ?_<;>intro hc<;>try omega)|fail)
       all_goals first
        | (exfalso;omega)
        | (exfalso;simp at hc;done)
        | (exact Dw rfl rfl rfl QM rfl rfl rfl rfl)
 · simp only [if_neg hg] at hgm
   rw [ofF_bad hg]
   clear hog hpl hsome
   repeat' (first|refine QFs ?_|(refine QB ?_;intro b)|(refine QG ?_;first|(refine QCf ?_))|(refine QH ?_ ?_<;>intro hc<;>try omega)|fail)
   all_goals first
    | (exfalso;omega)
    | (exact Dw rfl rfl rfl QM rfl rfl rfl rfl)
    | (exact Cs rfl rfl rfl rfl rfl)
end Go.Hw
namespace Go.Hw
open Go
attribute [local irreducible] GO GOl GDp Val Fn Res Ab Du Blk Bd Cd Bf Has Yl Ik Bn Lt Kk Ew Up Db Gq ofF
open Go.Proofs.Tryz (prog)
def ReadC (h:Ro) (bl bs bc:Nat) (A:Option Addr) (n c:Nat) (s co:Int):Prop:=Ab h ⟨bl,0,none⟩ [.slice A n c]∧Ab h ⟨bs,0,none⟩ [.int .i64 s]∧Ab h ⟨bc,0,none⟩ [.int .i64 co]
theorem ReadC.le {h h':Ro}{bl bs bc:Nat}{A:Option Addr}{n c:Nat}{s co:Int}(r:ReadC h bl bs bc A n c s co)(hl:Le h h'):ReadC h' bl bs bc A n c s co:=⟨r.1.le hl,r.2.1.le hl,r.2.2.le hl⟩
end Go.Hw
namespace Go.Hw
open Go
attribute [local irreducible] GO GOl GDp Val Fn Res Ab Du Blk Bd Cd Bf Has Yl Ik Bn Lt Kk Ew Up Db Gq ofF
open Go.Proofs.Tryz (prog)
end Go.Hw

import Derived.Test.YtlnenhhbalpbpaaGreatDoorGB
set_option linter.all false
set_option maxRecDepth 100000
set_option maxHeartbeats 4000000
namespace Go.Hw
open Go
attribute [local irreducible] GO GOl GDp Val Fn Res Ab Du Blk Bd Cd Bf Has
open Go.Proofs.Tryz (prog)
theorem Awa (h:Ro)(A:Option Addr)(n c:Nat)(l:List Int)(hx:Ar Cu 1 h A n l)(hn:n≤9223372036854775807)(B:Option Addr)(m d:Nat)(r:List Int)(hy:Ar Cu 1 h B m r)(hm:m≤9223372036854775807) :
  Val prog 219 #[.slice A n c,.slice B m d] h (.bool (decide (l=r))):=by
 refine QXV Proofs.Tryz.func219 fun w0 X0=>?_
 have hlen:=hx.len
 have hlen2:=hy.len
 by_cases hnm:n=m
 · subst hnm
   repeat' (first|refine QF ?_|(refine QH ?_ ?_<;>intro hc<;>try omega)|fail)
   · refine Ai (X:=Nat) (fun k=>k≤n∧l.take k=r.take k) (fun k=>n-k) (fun k=>[(5,.int .i64 k),(0,.slice A n c),(1,.slice B n d)]) (fun _=>[]) (fun _=>h) 0 ⟨by omega,rfl⟩ QS QT rfl ?_
     rintro k ⟨hk,hI⟩ ih
     by_cases hkn:k<n
     · have a1:=hx.addrD hkn
       have c1:=hx.cellsD 0 hkn
       have a2:=hy.addrD hkn
       have c2:=hy.cellsD 0 hkn
       have ht1:=Cb 0 hlen hkn
       have ht2:=Cb 0 hlen2 hkn
       have hne:l.getD k 0≠r.getD k 0→l≠r:=fun h1 h2=>h1 (by rw [h2])
       generalize l.getD k 0=u at *
       generalize r.getD k 0=v at *
       repeat' (first|refine QF ?_|(apply Ad (n:=6) [0,1,2,3,4,5,6,7,8] [(0,0),(1,0),(2,0),(3,0),(4,0),(5,0),(6,0),(7,0),(8,0)];kernel_rfl)|(apply Bk;exact J;kernel_rfl;exact J;exact J;(first|exact QAc|exact QBa|exact QAf|exact QA2);exact QA)|(refine QH ?_ ?_<;>intro hc<;>try omega)|fail)
       · (first|(apply Ac;(iterate 3 exact J)))
         rw [decide_eq_false (hne QAd)]
       · have h3:=ih (k+1) ⟨by omega,by have e5:u=v:=QAd;rw [ht1,ht2,hI,e5]⟩ QAd
         refine Aj QS QT (h3)
     · repeat' (first|refine QF ?_|(refine QH ?_ ?_<;>intro hc<;>try omega)|(apply Ac;(iterate 3 exact J)))
       rw [List.take_of_length_le QAd,List.take_of_length_le QAd] at hI
       rw [decide_eq_true hI]
 · repeat' (first|refine QF ?_|(refine QH ?_ ?_<;>intro hc<;>try omega)|(apply Ac;(iterate 3 exact J)))
   rw [decide_eq_false];intro hh;subst hh;omega
theorem sameC_c (h:Ro)(A:Option Addr)(n c:Nat)(l:List Dx)(hx:Ar Ox 2 h A n l)(hn:n≤9223372036854775807)(B:Option Addr)(m d:Nat)(r:List Dx)(hy:Ar Ox 2 h B m r)(hm:m≤9223372036854775807) :
  Val prog 285 #[.slice A n c,.slice B m d] h (.bool (decide (l=r))):=by
 refine QXV Proofs.Tryz.func285 fun w0 X0=>?_
 have hlen:=hx.len
 have hlen2:=hy.len
 by_cases hnm:n=m
 · subst hnm
   repeat' (first|refine QF ?_|(refine QH ?_ ?_<;>intro hc<;>try omega)|fail)
   · refine Ai (X:=Nat) (fun k=>k≤n∧l.take k=r.take k) (fun k=>n-k) (fun k=>[(5,.int .i64 k),(0,.slice A n c),(1,.slice B n d)]) (fun _=>[]) (fun _=>h) 0 ⟨by omega,rfl⟩ QS QT rfl ?_
     rintro k ⟨hk,hI⟩ ih
     by_cases hkn:k<n
     · have a1:=hx.addrD hkn
       have c1:=hx.cellsD Dg hkn
       have a2:=hy.addrD hkn
       have c2:=hy.cellsD Dg hkn
       have ht1:=Cb Dg hlen hkn
       have ht2:=Cb Dg hlen2 hkn
       have hne:l.getD k Dg≠r.getD k Dg→l≠r:=fun h1 h2=>h1 (by rw [h2])
       generalize l.getD k Dg=u at *
       generalize r.getD k Dg=v at *
       obtain ⟨up,ur⟩:=u
       obtain ⟨vp,vr⟩:=v
       repeat' (first|refine QF ?_|(apply Ad (n:=6) [0,1,2,3,4,5,6,7,8] [(0,0),(1,0),(2,0),(3,0),(4,0),(5,0),(6,0),(7,0),(8,0)];kernel_rfl)|(apply Bk;exact J;kernel_rfl;exact J;exact J;(first|exact QAc|exact QBa|exact QAf|exact QA2|exact QFc);exact QA)|(refine QH ?_ ?_<;>intro hc<;>try omega)|fail)
       · (first|(apply Ac;(iterate 3 exact J)))
         rw [decide_eq_false (hne QDc)]
       · have h3:=ih (k+1) ⟨by omega,by
          simp [Fe] at hc
          rw [ht1,ht2,hI,hc.1,hc.2]⟩ QAd
         refine Aj QS QT (h3)
     · repeat' (first|refine QF ?_|(refine QH ?_ ?_<;>intro hc<;>try omega)|(apply Ac;(iterate 3 exact J)))
       rw [List.take_of_length_le QAd,List.take_of_length_le QAd] at hI
       rw [decide_eq_true hI]
 · repeat' (first|refine QF ?_|(refine QH ?_ ?_<;>intro hc<;>try omega)|(apply Ac;(iterate 3 exact J)))
   rw [decide_eq_false];intro hh;subst hh;omega
theorem sameSR_c (h:Ro)(s:Fsh)(x:Ce)(hx:Kj h s x)(hxs:Tu x)(t:Fsh)(y:Ce)(hy:Kj h t y)(hys:Tu y):Val prog 220 #[Kq s x,Kq t y] h (.bool (decide (x=y))):=by
 refine QXV Proofs.Tryz.func220 fun w0 X0=>?_
 obtain ⟨n1,n2,n3,n4⟩:=hx.small hxs
 obtain ⟨m1,m2,m3,m4⟩:=hy.small hys
 repeat' (first|refine QF ?_|(apply Af;exact J;exact J;(first|(apply Hq;exact J;exact J;exact Lr x.g y.g;kernel_rfl;kernel_rfl));exact QA)|(refine QB ?_;intro b)|(refine QG ?_;first|(apply Aa;exact J;exact has219;first|exact Awa _ _ _ _ x.hs (hx.hs.le QAa) QAd _ _ _ y.hs (hy.hs.le QAa) QAd|exact Awa _ _ _ _ x.as (hx.as.le QAa) QAd _ _ _ y.as (hy.as.le QAa) QAd)|(apply Aa;exact J;exact has285;first|exact sameC_c _ _ _ _ x.hc (hx.hc.le QAa) QAd _ _ _ y.hc (hy.hc.le QAa) QAd|exact sameC_c _ _ _ _ x.ac (hx.ac.le QAa) QAd _ _ _ y.ac (hy.ac.le QAa) QAd))|refine QJ ?_|(refine QI ?_ ?_<;>intro hc<;>try omega)|fail)
 all_goals (first|(apply Ac;(iterate 3 exact J)))
 all_goals (clear hx hxs hy hys;refine Bg ?_;rw [C6a];grind)
theorem sameR_c (h:Ro)(s:Fsh)(x:Fct)(hx:FAt h s x)(hxs:FSm x)(t:Fsh)(y:Fct)(hy:FAt h t y)(hys:FSm y):Val prog 170 #[Br s x,Br t y] h (.bool (decide (x=y))):=by
 refine QXV Proofs.Tryz.func170 fun w0 X0=>?_
 obtain ⟨n1,n2,n3,n4,n5,n6⟩:=hx.small hxs
 obtain ⟨m1,m2,m3,m4,m5,m6⟩:=hy.small hys
 repeat' (first|refine QFs ?_|(apply Af;exact J;exact J;(first|(apply Cba;exact J;exact J;(first|exact fix_eq x.fg y.fg x.venue y.venue|exact Mp x.ru y.ru|exact app_eq x y|exact mov_eq x y);kernel_rfl;kernel_rfl)|(apply OV_neqV;exact J;exact J;exact void_eq x.void y.void hx.void hy.void;kernel_rfl;kernel_rfl));exact QA)|(refine QB ?_;intro b)|(refine QG ?_;first|(apply Aa;exact J;exact has219;first|exact Awa _ _ _ _ x.eClubs (hx.cl.le QAa) QAd _ _ _ y.eClubs (hy.cl.le QAa) QAd|exact Awa _ _ _ _ x.lO (hx.lo.le QAa) QAd _ _ _ y.lO (hy.lo.le QAa) QAd)|(apply Aa;exact J;exact has220;exact sameSR_c _ s x.sh hx.sh hxs.1 t y.sh hy.sh hys.1))|(refine QH ?_ ?_<;>intro hc<;>try omega)|refine QJ ?_|(refine QI ?_ ?_<;>intro hc<;>try omega)|fail)
 all_goals (first|(apply Ac;(iterate 3 exact J)))
 all_goals (clear hx hxs hy hys;refine Bg ?_;(try simp only [Dr,beq_iff_eq] at *))
 all_goals (rw [fct_ext];grind)
end Go.Hw

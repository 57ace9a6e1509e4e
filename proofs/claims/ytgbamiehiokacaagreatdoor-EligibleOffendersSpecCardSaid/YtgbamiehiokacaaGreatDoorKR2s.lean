import Derived.Test.YtgbamiehiokacaaGreatDoorGB
set_option linter.all false
set_option maxRecDepth 100000
set_option maxHeartbeats 4000000
namespace Go.Hw
open Go
attribute [local irreducible] GO GOl GDp Val Fn Res CellsAt ValE Blk OwnS MapA OwnPf Has
open Go.Proofs (Tryz.prog)
theorem Mq (h:Ro)(A:Option Addr)(n c:Nat)(l:List Int)(hx:SlOf encI 1 h A n l)(hn:n≤9223372036854775807)(B:Option Addr)(m d:Nat)(r:List Int)(hy:SlOf encI 1 h B m r)(hm:m≤9223372036854775807) :
 Val Tryz.prog 44 #[.slice A n c,.slice B m d] h (.bool (decide (l=r))):=by
 refine Ay (args:=[_,_]) ts_ok Go.Proofs.Tryz.func44 rfl rfl fun w0 X0 => ?_
 have hlen:=hx.len
 have hlen2:=hy.len
 by_cases hnm:n=m
 · subst hnm
   repeat' (first|apply Ac|apply Av|apply Ag|apply Aa|apply Ab|(apply Ad;(iterate 3 exact J))|(apply Af;exact J;all_goals (intro hc;try simp only [hcS,reduceCtorEq] at hc;try (exfalso;omega))))
   · refine Bj (X:=Nat) (fun k=>k≤n∧l.take k=r.take k) (fun k=>n-k) (fun k=>[(5,.int .i64 k),(0,.slice A n c),(1,.slice B n d)]) (fun _=>[]) (fun _=>h) 0 ⟨by omega,rfl⟩ QS QT rfl ?_
     rintro k ⟨hk,hI⟩ ih
     by_cases hkn:k<n
     · have a1:=hx.addrD hkn
       have c1:=hx.cellsD 0 hkn
       have a2:=hy.addrD hkn
       have c2:=hy.cellsD 0 hkn
       have ht1:=Cl 0 hlen hkn
       have ht2:=Cl 0 hlen2 hkn
       have hne:l.getD k 0≠r.getD k 0→l≠r:=fun h1 h2=>h1 (by rw [h2])
       generalize l.getD k 0=u at *
       generalize r.getD k 0=v at *
       repeat' (first|apply Ac|apply Av|apply Ah|apply Ag|apply Aa|apply Ab|(apply Bf;(iterate 3 exact J);omega;exact J;exact J)|(apply Ad;(iterate 3 exact J))|(apply Bd (n:=6) [0,1,2,3,4,5,6,7,8] [(0,0),(1,0),(2,0),(3,0),(4,0),(5,0),(6,0),(7,0),(8,0)];kernel_rfl)|(apply Ca;exact J;kernel_rfl;(iterate 3 exact J))|(apply Ce;exact J;kernel_rfl;exact J;exact J;(first|(apply Az (j:=k);(iterate 5 exact J);exact a1;(with_reducible exact J);omega)|(apply Az (j:=k);(iterate 5 exact J);exact a2;(with_reducible exact J);omega)|(apply Aq;exact J;exact Bh rfl c1 rfl)|(apply Aq;exact J;exact Bh rfl c2 rfl));exact QA)|(apply Bk;kernel_rfl;exact J)|(apply Af;exact J;all_goals (intro hc;try simp only [hcS,reduceCtorEq] at hc;try (exfalso;omega))))
       · (first|(apply Aw;(iterate 3 exact J)))
         rw [decide_eq_false (hne (by omega))]
       · have h3:=ih (k+1) ⟨by omega,by have e5:u=v:=(by omega);rw [ht1,ht2,hI,e5]⟩ (by omega)
         refine Bn QS QT (h3)
     · repeat' (first|apply Ac|apply Aa|apply Ab|(apply Bl;exact J)|(apply Ad;(iterate 3 exact J))|(apply Af;exact J;all_goals (intro hc;try simp only [hcS,reduceCtorEq] at hc;try (exfalso;omega)))|(apply Aw;(iterate 3 exact J)))
       rw [List.take_of_length_le (by omega),List.take_of_length_le (by omega)] at hI
       rw [decide_eq_true hI]
 · repeat' (first|apply Ac|apply Aa|apply Ab|(apply Ad;(iterate 3 exact J))|(apply Af;exact J;all_goals (intro hc;try simp only [hcS,reduceCtorEq] at hc;try (exfalso;omega)))|(apply Aw;(iterate 3 exact J)))
   rw [decide_eq_false];intro hh;subst hh;omega
theorem sameC_c (h:Ro)(A:Option Addr)(n c:Nat)(l:List FCard)(hx:SlOf encC 2 h A n l)(hn:n≤9223372036854775807)(B:Option Addr)(m d:Nat)(r:List FCard)(hy:SlOf encC 2 h B m r)(hm:m≤9223372036854775807) :
 Val Tryz.prog 239 #[.slice A n c,.slice B m d] h (.bool (decide (l=r))):=by
 refine Ay (args:=[_,_]) ts_ok Go.Proofs.Tryz.func239 rfl rfl fun w0 X0 => ?_
 have hlen:=hx.len
 have hlen2:=hy.len
 by_cases hnm:n=m
 · subst hnm
   repeat' (first|apply Ac|apply Av|apply Ag|apply Aa|apply Ab|(apply Ad;(iterate 3 exact J))|(apply Af;exact J;all_goals (intro hc;try simp only [hcS,reduceCtorEq] at hc;try (exfalso;omega))))
   · refine Bj (X:=Nat) (fun k=>k≤n∧l.take k=r.take k) (fun k=>n-k) (fun k=>[(5,.int .i64 k),(0,.slice A n c),(1,.slice B n d)]) (fun _=>[]) (fun _=>h) 0 ⟨by omega,rfl⟩ QS QT rfl ?_
     rintro k ⟨hk,hI⟩ ih
     by_cases hkn:k<n
     · have a1:=hx.addrD hkn
       have c1:=hx.cellsD card0 hkn
       have a2:=hy.addrD hkn
       have c2:=hy.cellsD card0 hkn
       have ht1:=Cl card0 hlen hkn
       have ht2:=Cl card0 hlen2 hkn
       have hne:l.getD k card0≠r.getD k card0→l≠r:=fun h1 h2=>h1 (by rw [h2])
       generalize l.getD k card0=u at *
       generalize r.getD k card0=v at *
       obtain ⟨up,ur⟩:=u
       obtain ⟨vp,vr⟩:=v
       repeat' (first|apply Ac|apply Av|apply Ah|apply Ag|apply Aa|apply Ab|(apply Bf;(iterate 3 exact J);omega;exact J;exact J)|(apply Ad;(iterate 3 exact J))|(apply Bd (n:=6) [0,1,2,3,4,5,6,7,8] [(0,0),(1,0),(2,0),(3,0),(4,0),(5,0),(6,0),(7,0),(8,0)];kernel_rfl)|(apply Ca;exact J;kernel_rfl;(iterate 3 exact J))|(apply Ce;exact J;kernel_rfl;exact J;exact J;(first|(apply Az (j:=k);(iterate 5 exact J);exact a1;(with_reducible exact J);omega)|(apply Az (j:=k);(iterate 5 exact J);exact a2;(with_reducible exact J);omega)|(apply Aq;exact J;exact Bh rfl c1 rfl)|(apply Aq;exact J;exact Bh rfl c2 rfl)|(apply On;(iterate 3 exact J);kernel_rfl;kernel_rfl));exact QA)|(apply Bk;kernel_rfl;exact J)|(apply Af;exact J;all_goals (intro hc;try simp only [hcS,reduceCtorEq] at hc;try (exfalso;omega))))
       · (first|(apply Aw;(iterate 3 exact J)))
         rw [decide_eq_false (hne (by rintro e;injection e with e1 e2;subst e1;subst e2;simp [Dq] at hc))]
       · have h3:=ih (k+1) ⟨by omega,by
          simp [Dq] at hc
          rw [ht1,ht2,hI,hc.1,hc.2]⟩ (by omega)
         refine Bn QS QT (h3)
     · repeat' (first|apply Ac|apply Aa|apply Ab|(apply Bl;exact J)|(apply Ad;(iterate 3 exact J))|(apply Af;exact J;all_goals (intro hc;try simp only [hcS,reduceCtorEq] at hc;try (exfalso;omega)))|(apply Aw;(iterate 3 exact J)))
       rw [List.take_of_length_le (by omega),List.take_of_length_le (by omega)] at hI
       rw [decide_eq_true hI]
 · repeat' (first|apply Ac|apply Aa|apply Ab|(apply Ad;(iterate 3 exact J))|(apply Af;exact J;all_goals (intro hc;try simp only [hcS,reduceCtorEq] at hc;try (exfalso;omega)))|(apply Aw;(iterate 3 exact J)))
   rw [decide_eq_false];intro hh;subst hh;omega
theorem sameSR_c (h:Ro)(s:Fsh)(x:FSheet)(hx:ShAt h s x)(hxs:ShSm x)(t:Fsh)(y:FSheet)(hy:ShAt h t y)(hys:ShSm y):Val Tryz.prog 179 #[sheetV s x,sheetV t y] h (.bool (decide (x=y))):=by
 refine Ay (args:=[_,_]) ts_ok Go.Proofs.Tryz.func179 rfl rfl fun w0 X0 => ?_
 obtain ⟨n1,n2,n3,n4⟩:=hx.small hxs
 obtain ⟨m1,m2,m3,m4⟩:=hy.small hys
 repeat' (first|apply Ac|apply Aa|apply Ab|(apply Au;exact J;exact J)|(apply Ad;(iterate 3 exact J))|(apply Ao;exact J;exact Bb rfl QM rfl;exact J;exact J)|(apply Be;exact J;exact J;(first|(apply Da;exact J;exact J;exact Ev x.g y.g;kernel_rfl;kernel_rfl));exact QA)|(apply Ai;(iterate 3 exact J);(first|(apply Ar;exact J;intro b;skip)|(apply Ak;exact J;exact has44;first|exact Mq _ _ _ _ x.hs (hx.hs.le QL) (by omega) _ _ _ y.hs (hy.hs.le QL) (by omega)|exact Mq _ _ _ _ x.asn (hx.asn.le QL) (by omega) _ _ _ y.asn (hy.asn.le QL) (by omega);skip)|(apply Ak;exact J;exact has239;first|exact sameC_c _ _ _ _ x.hc (hx.hc.le QL) (by omega) _ _ _ y.hc (hy.hc.le QL) (by omega)|exact sameC_c _ _ _ _ x.ac (hx.ac.le QL) (by omega) _ _ _ y.ac (hy.ac.le QL) (by omega);skip)))|(apply Bc;exact J;exact J;all_goals (intro hc;try simp only [hcS,reduceCtorEq] at hc;try (exfalso;omega))))
 all_goals (first|(apply Aw;(iterate 3 exact J)))
 all_goals (clear hx hxs hy hys;refine Cb ?_;rw [Tn];grind)
theorem sameR_c (h:Ro)(s:Fsh)(x:Fct)(hx:FAt h s x)(hxs:FSm x)(t:Fsh)(y:Fct)(hy:FAt h t y)(hys:FSm y):Val Tryz.prog 98 #[factV s x,factV t y] h (.bool (decide (x=y))):=by
 refine Ay (args:=[_,_]) ts_ok Go.Proofs.Tryz.func98 rfl rfl fun w0 X0 => ?_
 obtain ⟨n1,n2,n3,n4,n5,n6⟩:=hx.small hxs
 obtain ⟨m1,m2,m3,m4,m5,m6⟩:=hy.small hys
 repeat' (first|apply Ac|apply Av|apply Aa|apply Ab|(apply Au;exact J;exact J)|(apply Ad;(iterate 3 exact J))|(apply Ao;exact J;exact Bb rfl QM rfl;exact J;exact J)|(apply Be;exact J;exact J;(first|(apply On;exact J;exact J;(first|exact fix_eq x.fg y.fg x.venue y.venue|exact Gz x.ru y.ru|exact app_eq x y|exact mov_eq x y);kernel_rfl;kernel_rfl)|(apply OV_neqV;exact J;exact J;exact void_eq x.void y.void hx.void hy.void;kernel_rfl;kernel_rfl));exact QA)|(apply Ai;(iterate 3 exact J);(first|(apply Aj;(iterate 3 exact J);exact QR;(iterate 3 exact J);skip)|(apply Ar;exact J;intro b;skip)|(apply Ap;exact J;intro b;skip)|(apply Ak;exact J;exact has44;first|exact Mq _ _ _ _ x.eClubs (hx.cl.le QL) (by omega) _ _ _ y.eClubs (hy.cl.le QL) (by omega)|exact Mq _ _ _ _ x.lO (hx.lo.le QL) (by omega) _ _ _ y.lO (hy.lo.le QL) (by omega);skip)|(apply Ak;exact J;exact has179;exact sameSR_c _ s x.sh hx.sh hxs.1 t y.sh hy.sh hys.1;skip)))|(apply Af;exact J;all_goals (intro hc;try simp only [hcS,reduceCtorEq] at hc;try (exfalso;omega)))|(apply Bc;exact J;exact J;all_goals (intro hc;try simp only [hcS,reduceCtorEq] at hc;try (exfalso;omega))))
 all_goals (first|(apply Aw;(iterate 3 exact J)))
 all_goals (clear hx hxs hy hys;refine Cb ?_;(try simp only [Dc,beq_iff_eq] at *))
 all_goals (rw [fct_ext];grind)
end Go.Hw

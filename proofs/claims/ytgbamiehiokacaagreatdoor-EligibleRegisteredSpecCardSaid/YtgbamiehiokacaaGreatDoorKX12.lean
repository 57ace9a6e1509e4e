import Derived.Test.YtgbamiehiokacaaGreatDoorXB
import Derived.Test.YtgbamiehiokacaaGreatDoorXD
set_option linter.all false
set_option maxRecDepth 100000
set_option maxHeartbeats 8000000
namespace Go.Hw
open Go
attribute [local irreducible] GO GOl GDp Val Fn Res CellsAt ValE Blk OwnS MapA OwnPf Has Yl SepA forceL decC memS suspC suspN suspOne yelC cardsF nextC regF offS unfitL
open Go.Proofs (Tryz.prog)
open Classical in
theorem Wz (h:Ro)(hG:PowG h)(A:Option Addr)(n c:Nat)(l:List (Fsh×Fct))(hx:LedIn h A n c l)(pl day:Int):Res Tryz.prog 7 #[.slice A n c,.int .i64 pl,.int .i64 day] h (fun u _=>u=.bool true):=by
 refine Bi (args:=[_,_,_]) ts_ok Go.Proofs.Tryz.func7 rfl rfl fun w0 X0 => ?_
 have hfew:=fewF_c h A n c l hx.row hx.small 12
 have hsane:=Qx h hG
 by_cases hF:(∀ p∈l,SmallS p.1 p.2)∧(n:Int)≤12
 · rw [decide_eq_true hF] at hfew
   have hfa:FactsAt h A n l:=⟨hx.row,hx.fat,by have:=hF.2;omega⟩
   have hn6:n≤65536:=by have:=hF.2;omega
   have hn12:=hF.2
   have hrow:=hfa.row
   have hr1:=fun p d h' (hl:Le h h')=>El h' (hG.le hl) A n c l (hfa.le hl) p d
   have hr2:=fun p d h' (hl:Le h h')=>Jj h' A n c l (hfa.le hl) hn6 p d
   have hu1:=fun p d h' (hl:Le h h')=>Yh h' (hG.le hl) A n c l (hfa.le hl) p d
   have hu2:=fun p d h' (hl:Le h h')=>A5a h' A n c l (hfa.le hl) hn6 p d
   unfold regV at hr1
   clear hF hfa hx
   generalize fcs l=L at *
   generalize canonL L=C at *
   repeat' (first|apply Ac|apply Av|apply Ag|apply Aa|apply Ab|(apply Ad;(iterate 3 exact J))|(apply Ai;(iterate 3 exact J);(first|(apply Ak;exact J;exact B7a;exact hsane;skip)|(apply Ak;exact J;exact B6a;exact hfew;skip)|(apply Bq (n:=1) (cs:=[pl].flatMap encI);(iterate 3 exact J);exact List.cons_ne_nil _ _;(iterate 6 exact J);intro b7;skip)|(apply Bq (n:=1) (cs:=[day].flatMap encI);(iterate 3 exact J);exact List.cons_ne_nil _ _;(iterate 6 exact J);intro b8;skip)))|(apply Af;exact J;all_goals (intro hc;try simp only [hcS,reduceCtorEq] at hc;try (exfalso;omega))))
   all_goals (try (exfalso;simp at hc;done))
   clear hfew hsane
   refine Bj (X:=Nat×List Int×Option Addr×Nat×List Int×Option Addr×Nat×Ro) (fun x=>x.1≤n∧Le h x.2.2.2.2.2.2.2∧x.2.1.length=1+2 * x.1∧x.2.2.2.2.1.length=1+2 * x.1) (fun x=>n-x.1)
    (fun x=>[(30,.int .i64 x.1),(29,.int .i64 n),(28,.slice A n c),(7,.slice x.2.2.1 x.2.1.length x.2.2.2.1),(8,.slice x.2.2.2.2.2.1 x.2.2.2.2.1.length x.2.2.2.2.2.2.1),(0,.slice A n c),(2,.int .i64 day)])
    (fun x=>[OwnS 3 1 (.slice x.2.2.1 x.2.1.length x.2.2.2.1) x.2.1.length (x.2.1.flatMap encI),OwnS 3 1 (.slice x.2.2.2.2.2.1 x.2.2.2.2.1.length x.2.2.2.2.2.2.1) x.2.2.2.2.1.length (x.2.2.2.2.1.flatMap encI)]) (fun x=>x.2.2.2.2.2.2.2) (0,[pl],some ⟨b7,0,none⟩,1,[day],some ⟨b8,0,none⟩,1,h) ⟨by dsimp only;omega,Le.refl _,rfl,rfl⟩ QS QT rfl ?_
   rintro ⟨k,ps,A4,c4,dd,A5,c5,hh⟩ ⟨hk,hle,hpl,hdl⟩ ih
   dsimp only at hk hle hpl hdl ih ⊢
   by_cases hkn:k<n
   · have a1:=hrow.addrD hkn
     have c1:CellsAt hh ((addrD A).add (k * ty54.size)) (encF82 (l.getD k p0)):=(hrow.cellsD p0 hkn).le hle
     generalize l.getD k p0=p at *
     repeat' (first|apply Ac|apply Av|apply Ah|apply Ag|apply Aa|apply Ab|(apply Bf;(iterate 3 exact J);omega;exact J;exact J)|(apply Ad;(iterate 3 exact J))|(apply Ao;exact J;exact Bb rfl QM rfl;exact J;exact J)|(apply Be;exact J;exact J;(first|(apply Az (j:=k);(iterate 5 exact J);exact a1;(with_reducible exact J);omega)|(apply Aq;exact J;exact Bh rfl c1 rfl));exact QA)|(apply Ai;(iterate 3 exact J);(first|(apply Aj;(iterate 3 exact J);exact QR;(iterate 3 exact J);skip)|(apply Ap;exact J;intro b;skip)|(apply At (enc:=encI) (n:=2) [p.2.mP,p.2.ru.player];(iterate 3 exact J);exact List.cons_ne_nil _ _;(iterate 4 exact J);exact fun _=>rfl;exact J;exact J;intro b5 h5 hle5 hs5;skip)|(apply Bg (enc:=encI) (xs:=ps) (ys:=[p.2.mP,p.2.ru.player]);(iterate 7 exact J);exact hs5;exact fun _=>rfl;exact fun x=>Bv rfl;intro v1;exact QR;omega;exact J;intro A6 c6;skip)|(apply At (enc:=encI) (n:=2) [p.2.day,p.2.ru.hi];(iterate 3 exact J);exact List.cons_ne_nil _ _;(iterate 4 exact J);exact fun _=>rfl;exact J;exact J;intro b6 h6 hle6 hs6;skip)|(apply Bg (enc:=encI) (xs:=dd) (ys:=[p.2.day,p.2.ru.hi]);(iterate 7 exact J);exact hs6;exact fun _=>rfl;exact fun x=>Bv rfl;intro v1;exact QR;omega;exact J;intro A7 c7;skip)))|(apply Af;exact J;all_goals (intro hc;try simp only [hcS,reduceCtorEq] at hc;try (exfalso;omega))))
     all_goals first
      | (exfalso;omega)
      | (have h3:=ih (k+1,ps++[p.2.mP,p.2.ru.player],A6,c6,dd++[p.2.day,p.2.ru.hi],A7,c7,h6) ⟨by dsimp only;omega,hle.trans (hle5.trans hle6),by dsimp only;rw [List.length_append,hpl];simp;omega,by dsimp only;rw [List.length_append,hdl];simp;omega⟩ (by dsimp only;omega)
         dsimp only at h3
         rw [List.length_append,List.length_append] at h3
         refine Bn QS QT (h3))
   · clear ih
     repeat' (first|apply Ac|apply Ag|apply Aa|apply Ab|(apply Bl;exact J)|(apply Ad;(iterate 3 exact J))|(apply Af;exact J;all_goals (intro hc;try simp only [hcS,reduceCtorEq] at hc;try (exfalso;omega))))
     all_goals (try (exfalso;omega))
     refine Db (enc:=encI) (e:=3) (sz:=1) (n:=ps.length) (xs:=ps) (fun _=>rfl) rfl QK ?_
     intro A7 c7 h7 hle7 e7 hnc7 hs7
     injection e7 with e71 _ e73
     subst e71;subst e73
     refine Db (enc:=encI) (e:=3) (sz:=1) (n:=dd.length) (xs:=dd) (fun _=>rfl) rfl QK ?_
     intro A8 c8 h8 hle8 e8 hnc8 hs8
     injection e8 with e81 _ e83
     subst e81;subst e83
     refine Bj (X:=Nat×Ro) (fun x=>x.1≤ps.length∧Le h8 x.2) (fun x=>ps.length-x.1)
      (fun x=>[(55,.int .i64 x.1),(54,.int .i64 ps.length),(53,.slice A4 ps.length c4),(8,.slice A5 dd.length c5),(0,.slice A n c),(2,.int .i64 day)])
      (fun x=>[]) (fun x=>x.2) (0,h8) ⟨by dsimp only;omega,Le.refl _⟩ QS QT rfl ?_
     rintro ⟨i,h9⟩ ⟨hi,hle9⟩ ih
     dsimp only at hi hle9 ih ⊢
     have hle0:Le h h9:=hle.trans (hle7.trans (hle8.trans hle9))
     by_cases hin:i<ps.length
     · have a2:=hs7.addrD hin
       have c2:CellsAt h9 ((addrD A4).add (i * ty3.size)) (encI (ps.getD i 0)):=(hs7.cellsD 0 hin).le (hle8.trans hle9)
       have hi2:i / 2<dd.length:=by omega
       have a3:=hs8.addrD hi2
       have c3':CellsAt h9 ((addrD A5).add ((i / 2) * ty3.size)) (encI (dd.getD (i / 2) 0)):=(hs8.cellsD 0 hi2).le hle9
       generalize ps.getD i 0=p at *
       generalize dd.getD (i / 2) 0=d2 at *
       have h3:=fun h' (hl:Le h9 h')=>ih (i+1,h') ⟨by dsimp only;omega,hle9.trans hl⟩ (by dsimp only;omega)
       dsimp only at h3
       have r1:=fun d h' (hl:Le h9 h')=>hr1 p d h' (hle0.trans hl)
       have r2:=fun d h' (hl:Le h9 h')=>hr2 p d h' (hle0.trans hl)
       have u1:=fun d h' (hl:Le h9 h')=>hu1 p d h' (hle0.trans hl)
       have u2:=fun d h' (hl:Le h9 h')=>hu2 p d h' (hle0.trans hl)
       clear hr1 hr2 hu1 hu2 ih
       repeat' (first|apply Ac|apply Av|apply Ag|apply Aa|apply Ab|(apply Be;exact J;exact J;(first|(apply Ky;(iterate 3 exact J);omega;omega));exact QA)|(apply Ad;(iterate 3 exact J))|(apply Be;exact J;exact J;(first|(apply Az (j:=i) (A:=A4);(iterate 5 exact J);exact a2;(with_reducible exact J);omega)|(apply Aq;exact J;exact Bh rfl c2 rfl)|(apply Az (j:=i / 2) (A:=A5);(iterate 5 exact J);exact a3;omega;omega)|(apply Aq;exact J;exact Bh rfl c3' rfl));exact QA)|(apply Ai;(iterate 3 exact J);(first|(apply At (enc:=encI) (n:=2) [day,d2];(iterate 3 exact J);exact List.cons_ne_nil _ _;(iterate 4 exact J);exact fun _=>rfl;exact J;exact J;intro b10 h10 hle10 hs10;skip)))|(apply Af;exact J;all_goals (intro hc;try simp only [hcS,reduceCtorEq] at hc;try (exfalso;omega))))
       all_goals (try (exfalso;omega))
       refine Bj (X:=Nat×Ro) (fun x=>x.1≤2∧Le h10 x.2) (fun x=>2-x.1)
        (fun x=>[(68,.int .i64 x.1),(67,.int .i64 2),(66,.slice (some ⟨b10,0,none⟩) 2 2),(12,.int .i64 p),(55,.int .i64 i),(54,.int .i64 ps.length),(53,.slice A4 ps.length c4),(8,.slice A5 dd.length c5),(0,.slice A n c),(2,.int .i64 day)])
        (fun x=>[]) (fun x=>x.2) (0,h10) ⟨by dsimp only;omega,Le.refl _⟩ QS QT rfl ?_
       rintro ⟨j,h11⟩ ⟨hj,hle11⟩ ih
       dsimp only at hj hle11 ih ⊢
       by_cases hjn:j<2
       · have a4:=hs10.addrD hjn
         have c4':CellsAt h11 ((addrD (some ⟨b10,0,none⟩)).add (j * ty3.size)) (encI ([day,d2].getD j 0)):=(hs10.cellsD 0 hjn).le hle11
         generalize [day,d2].getD j 0=dj at *
         have r1:=fun h' (hl:Le h11 h')=>r1 dj h' (hle10.trans (hle11.trans hl))
         have r2:=fun h' (hl:Le h11 h')=>r2 dj h' (hle10.trans (hle11.trans hl))
         have u1:=fun h' (hl:Le h11 h')=>u1 dj h' (hle10.trans (hle11.trans hl))
         have u2:=fun h' (hl:Le h11 h')=>u2 dj h' (hle10.trans (hle11.trans hl))
         have h4:=fun h' (hl:Le h11 h')=>ih (j+1,h') ⟨by dsimp only;omega,hle11.trans hl⟩ (by dsimp only;omega)
         dsimp only at h4
         generalize (regF L p dj).mTo=t at *
         generalize (if t<0 then 0 else t)=t0 at *
         generalize decide (0≤t)=tb at *
         generalize unfitL C p dj=ub at *
         clear ih h3
         cases tb
         all_goals cases ub
         all_goals (repeat' (first|apply Ac|apply Av|apply Ah|apply Ag|apply Aa|apply Ab|(apply Bf;(iterate 3 exact J);omega;exact J;exact J)|(apply Ad;(iterate 3 exact J))|(apply Be;exact J;exact J;(first|(apply Az (j:=j) (n:=2);(iterate 5 exact J);exact a4;(with_reducible exact J);omega)|(apply Aq;exact J;exact Bh rfl c4' rfl));exact QA)|(apply Ai;(iterate 3 exact J);(first|(apply Ba;exact J;exact B5a;exact r1 _ QL;rintro v1 e1 he1 rfl;skip)|(apply Ba;exact J;exact has36;exact r2 _ QL;rintro v2 e2 he2 rfl;skip)|(apply Ba;exact J;exact has37;exact u1 _ QL;rintro v3 e3 he3 rfl;skip)|(apply Ba;exact J;exact has38;exact u2 _ QL;rintro v4 e4 he4 rfl;skip)))|(apply Af;exact J;all_goals (intro hc;try simp only [hcS,reduceCtorEq] at hc;try (exfalso;omega)))|(apply Bc;exact J;exact J;all_goals (intro hc;try simp only [hcS,reduceCtorEq] at hc;try (exfalso;omega)))))
         all_goals first
          | (exfalso;simp at hc;done)
          | (exfalso;omega)
          | (have h4:=h4 e4 (he1.trans (he2.trans (he3.trans he4)))
             refine Bn QS QT (h4))
       · clear ih
         have h3:=h3 h11 (hle10.trans hle11)
         repeat' (first|apply Ac|apply Ah|apply Aa|apply Ab|(apply Bl;exact J)|(apply Bf;(iterate 3 exact J);omega;exact J;exact J)|(apply Ad;(iterate 3 exact J))|(apply Af;exact J;all_goals (intro hc;try simp only [hcS,reduceCtorEq] at hc;try (exfalso;omega))))
         all_goals first
          | (exfalso;omega)
          | (refine Bn QS QT (h3))
     · clear ih
       repeat' (first|apply Ac|apply Aa|apply Ab|(apply Bl;exact J)|(apply Ad;(iterate 3 exact J))|(apply Af;exact J;all_goals (intro hc;try simp only [hcS,reduceCtorEq] at hc;try (exfalso;omega))))
       all_goals first
        | (exfalso;omega)
        | (exact Bt rfl rfl rfl rfl)
 · rw [decide_eq_false hF] at hfew
   repeat' (first|apply Ac|apply Av|apply Aa|apply Ab|(apply Ad;(iterate 3 exact J))|(apply Ai;(iterate 3 exact J);(first|(apply Ak;exact J;exact B7a;exact hsane;skip)|(apply Ak;exact J;exact B6a;exact hfew;skip)))|(apply Af;exact J;all_goals (intro hc;try simp only [hcS,reduceCtorEq] at hc;try (exfalso;omega))))
   all_goals first
    | (exact Bt rfl rfl rfl rfl)
    | (exfalso;simp at hc;done)
end Go.Hw

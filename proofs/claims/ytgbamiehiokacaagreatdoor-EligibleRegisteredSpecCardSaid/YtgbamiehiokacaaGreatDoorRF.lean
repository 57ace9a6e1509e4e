import Derived.Test.YtgbamiehiokacaaGreatDoorRE
import Derived.Test.YtgbamiehiokacaaGreatDoorEB
set_option linter.all false
set_option maxRecDepth 100000
set_option maxHeartbeats 8000000
namespace Go.Hw
open Go
attribute [local irreducible] GO GOl GDp Val Fn Res CellsAt ValE Blk OwnS MapA OwnPf Has Yl RngA
open Go.Proofs (Tryz.prog)
end Go.Hw
namespace Go.Hw
open Go
attribute [local irreducible] GO GOl GDp Val Fn Res CellsAt ValE Blk OwnS MapA OwnPf Has Yl RngA
open Go.Proofs (Tryz.prog)
def playL (C:List (Fsh×Fct)):List FGame:=C.foldl (fun o p=>if p.2.kind=3 then insG p.2.sh.g o else o) []
theorem Pg (C:List (Fsh×Fct))(p:Fsh×Fct):playL (C++[p])=if p.2.kind=3 then insG p.2.sh.g (playL C) else playL C:=by
 unfold playL;rw [List.foldl_append];rfl
theorem Aaa {g:FGame}:∀ {l:List FGame},(insG g l).length≤l.length+1
 | []=>by simp [insG]
 | y::r=>by
   unfold insG
   split
   · simp
   · split
     · simp
     · have:=Aaa (g:=g) (l:=r);simp;omega
theorem Tv (C:List (Fsh×Fct)):(playL C).Pairwise LtG∧(playL C).length≤C.length∧∀ x,x∈playL C↔∃ p∈C,p.2.kind=3∧p.2.sh.g=x:=by
 refine Hr (P:=fun C=>(playL C).Pairwise LtG∧(playL C).length≤C.length∧∀ x,x∈playL C↔∃ p∈C,p.2.kind=3∧p.2.sh.g=x) (by simp [playL]) (fun C p ih => ?_) C
 obtain ⟨h1,h2,h3⟩:=ih
 rw [Pg]
 split
 · rename_i hk
   refine ⟨insG_lt h1,?_,fun x => ?_⟩
   · have:=Aaa (g:=p.2.sh.g) (l:=playL C);simp;omega
   · rw [Rm,h3]
     constructor
     · rintro (e|⟨q,hq,e⟩)
       · exact ⟨p,by simp,hk,e.symm⟩
       · exact ⟨q,by simp [hq],e⟩
     · rintro ⟨q,hq,e⟩
       rw [List.mem_append,List.mem_singleton] at hq
       rcases hq with hq|rfl
       · exact .inr ⟨q,hq,e⟩
       · exact .inl e.2.symm
 · rename_i hk
   refine ⟨h1,by simp;omega,fun x => ?_⟩
   rw [h3]
   constructor
   · rintro ⟨q,hq,e⟩;exact ⟨q,by simp [hq],e⟩
   · rintro ⟨q,hq,e⟩
     rw [List.mem_append,List.mem_singleton] at hq
     rcases hq with hq|rfl
     · exact ⟨q,hq,e⟩
     · exact absurd e.1 hk
theorem playedR_c (h:Ro)(A:Option Addr)(n c:Nat)(l:List (Fsh×Fct))(hx:FactsAt h A n l)(hn:n≤65536):Res Tryz.prog 225 #[.slice A n c] h (fun u h'=>∃ A' c' L,u=.slice A' L.length c'∧SlOf gameC 4 h' A' L.length L∧L.length≤65536∧L.Pairwise LtG∧∀ x,x∈L↔∃ f∈cont l,f.kind=3∧FctOk f∧f.sh.g=x):=by
 refine Bi (args:=[_]) ts_ok Go.Proofs.Tryz.func225 rfl rfl fun w0 X0 => ?_
 have h32:In32 (fcs l):=Kz hx.fat
 have hxl:=hx.row.len
 repeat' (first|apply Ac|apply Ag|apply Aa|apply Ab|(apply Ad;(iterate 3 exact J))|(apply Ai;(iterate 3 exact J);(first|(apply Ba;exact J;exact has56;exact Jx _ A n c l (hx.le QL) hn;rintro w1 h1 hle1 ⟨A3,k3,c3,l3,rfl,hL⟩;skip)|(apply Bm (cs:=[]);(iterate 3 exact J);exact List.cons_ne_nil _ _;(iterate 4 exact J);intro b2 h2 hle2 hcs2;skip))))
 have hlen3:=hL.2.1.row.len
 have hcl:=Qg h32
 rw [← hL.2.2,List.length_map,List.length_map,hlen3,hxl] at hcl
 have hO:SlOf gameC 4 h2 (some ⟨b2,0,none⟩) (playL (l3.take 0)).length (playL (l3.take 0)):=SlOf.of_flat (fun _=>rfl) rfl hcs2
 refine Bj (X:=Nat×Option Addr×Nat×Ro) (fun x=>x.1≤k3∧Le h2 x.2.2.2∧SlOf gameC 4 x.2.2.2 x.2.1 (playL (l3.take x.1)).length (playL (l3.take x.1))) (fun x=>k3-x.1)
  (fun x=>[(5,.int .i64 x.1),(4,.slice x.2.1 (playL (l3.take x.1)).length x.2.2.1),(3,.slice A3 k3 c3)]) (fun _=>[]) (fun x=>x.2.2.2) (0,some ⟨b2,0,none⟩,0,h2) ⟨by dsimp only;omega,Le.refl _,hO⟩ QS QT rfl ?_
 rintro ⟨i,A4,c4,hh⟩ ⟨hi,hle,hs⟩ ih
 dsimp only at hi hle hs ih ⊢
 by_cases hik:i<k3
 · have a1:=hL.2.1.row.addrD hik
   have cc:CellsAt hh ((addrD A3).add (i * ty54.size)) (encF82 (l3.getD i p0)):=(hL.2.1.row.cellsD p0 hik).le QL
   have et:=Cl p0 hlen3 hik
   generalize l3.getD i p0=q at *
   have hpn:=(Tv (l3.take i)).2.1
   rw [List.length_take] at hpn
   have esn:=Pg (l3.take i) q
   rw [← et] at esn
   by_cases hk:q.2.kind=3
   · rw [if_pos hk] at esn
     repeat' (first|apply Ac|apply Av|apply Ah|apply Ag|apply Aa|apply Ab|(apply Bf;(iterate 3 exact J);omega;exact J;exact J)|(apply Ad;(iterate 3 exact J))|(apply Be;exact J;exact J;(first|(apply Az (j:=i);(iterate 5 exact J);exact a1;(with_reducible exact J);omega)|(apply Aq;exact J;first|exact Bh rfl (by assumption) rfl|exact Bz rfl (by assumption) rfl|exact By rfl (by assumption) rfl|exact Lv_roF3 rfl (by assumption) rfl));exact QA)|(apply Ai;(iterate 3 exact J);(first|(apply Ba;exact J;exact has315;exact withG_c _ A4 _ c4 (playL (l3.take i)) (hs.le QL) (by omega) q.2.sh.g;rintro w5 h5 hle5 ⟨A5,c5,rfl,hs5⟩;skip)))|(apply Af;exact J;all_goals (intro hc;try simp only [hcS,reduceCtorEq] at hc;try (exfalso;omega))))
     all_goals (try (exfalso;omega))
     all_goals
      rw [← esn] at hs5
      have h3:=ih (i+1,A5,c5,h5) ⟨by dsimp only;omega,by dsimp only;exact hle.trans hle5,hs5⟩ (by dsimp only;omega)
      dsimp only at h3
      rw [esn] at h3
      refine Bn QS QT (h3)
   · rw [if_neg hk] at esn
     repeat' (first|apply Ac|apply Av|apply Ah|apply Ag|apply Aa|apply Ab|(apply Bf;(iterate 3 exact J);omega;exact J;exact J)|(apply Ad;(iterate 3 exact J))|(apply Be;exact J;exact J;(first|(apply Az (j:=i);(iterate 5 exact J);exact a1;(with_reducible exact J);omega)|(apply Aq;exact J;first|exact Bh rfl (by assumption) rfl|exact Bz rfl (by assumption) rfl|exact By rfl (by assumption) rfl|exact Lv_roF3 rfl (by assumption) rfl));exact QA)|(apply Af;exact J;all_goals (intro hc;try simp only [hcS,reduceCtorEq] at hc;try (exfalso;omega))))
     all_goals (try (exfalso;omega))
     all_goals
      have h3:=ih (i+1,A4,c4,hh) ⟨by dsimp only;omega,hle,by dsimp only;rw [esn];exact hs⟩ (by dsimp only;omega)
      dsimp only at h3
      rw [esn] at h3
      refine Bn QS QT (h3)
 · rw [List.take_of_length_le (by omega)] at hs ⊢
   clear ih
   obtain ⟨p1,p2,p3⟩:=Tv l3
   obtain ⟨q1,q2⟩:=Cp (fcs l) h32
   repeat' (first|apply Ac|apply Aa|apply Ab|(apply Bl;exact J)|(apply Ad;(iterate 3 exact J))|(apply Af;exact J;all_goals (intro hc;try simp only [hcS,reduceCtorEq] at hc;try (exfalso;omega))))
   all_goals (try (exfalso;omega))
   all_goals
    refine Bt rfl rfl rfl ⟨A4,c4,playL l3,rfl,hs,by omega,p1,fun x => ?_⟩
    rw [p3]
    constructor
    · rintro ⟨p,hp,e1,e2⟩
      have hm:=(q2 p.2).1 (hL.2.2 ▸ List.mem_map.2 ⟨p,hp,rfl⟩)
      exact ⟨p.2,hm.1,e1,hm.2,e2⟩
    · rintro ⟨f,hf,e1,e2,e3⟩
      have hm:f∈fcs l3:=hL.2.2.symm ▸ (q2 f).2 ⟨hf,e2⟩
      obtain ⟨p,hp,rfl⟩:=List.mem_map.1 hm
      exact ⟨p,hp,e1,e3⟩
theorem gamesR_c (h:Ro)(A:Option Addr)(n c:Nat)(l:List (Fsh×Fct))(hx:FactsAt h A n l)(hn:n≤65536)(season comp:Int):Res Tryz.prog 167 #[.slice A n c,.int .i64 season,.int .i64 comp] h (fun u h'=>∃ A c,u=.slice A (gamesL l season comp).length c∧SlOf gameC 4 h' A (gamesL l season comp).length (gamesL l season comp)):=by
 refine Bi (args:=[_,_,_]) ts_ok Go.Proofs.Tryz.func167 rfl rfl fun w0 X0 => ?_
 repeat' (first|apply Ac|apply Ag|apply Aa|apply Ab|(apply Ad;(iterate 3 exact J))|(apply Ai;(iterate 3 exact J);(first|(apply Bq (n:=0);(iterate 3 exact J);exact List.cons_ne_nil _ _;(iterate 6 exact J);intro b1;skip)|(apply Ba;exact J;exact has225;exact playedR_c _ A n c l (hx.le QL) hn;rintro w1 h1 hle1 ⟨A3,c3,L,rfl,hs,hLn,hLp,hLm⟩;skip))))
 obtain ⟨k3,hk3⟩:∃ k3,L.length=k3:=⟨_,rfl⟩
 rw [hk3] at hs hLn ⊢
 refine Bj (X:=Nat×Nat×List FGame×Option Addr×Nat×Ro) (fun x=>x.1≤k3∧x.2.2.1.length=x.2.1∧x.2.1≤x.1∧Le h1 x.2.2.2.2.2∧x.2.2.1=(L.take x.1).filter (fun g=>decide (g.s=season∧g.c=comp))) (fun x=>k3-x.1)
  (fun x=>[(9,.int .i64 x.1),(8,.slice A3 k3 c3),(7,.slice x.2.2.2.1 x.2.1 x.2.2.2.2.1),(1,.int .i64 season),(2,.int .i64 comp)])
  (fun x=>[OwnS 35 4 (.slice x.2.2.2.1 x.2.1 x.2.2.2.2.1) x.2.1 (x.2.2.1.flatMap gameC)]) (fun x=>x.2.2.2.2.2) (0,0,[],some ⟨b1,0,none⟩,0,h1) ⟨by dsimp only;omega,rfl,by dsimp only;omega,Le.refl _,by simp⟩ QS QT rfl ?_
 rintro ⟨i,m,o,A4,c4,hh⟩ ⟨hi,hm,hmi,hle,ho⟩ ih
 dsimp only at hi hm hmi hle ho ih ⊢
 by_cases hik:i<k3
 · have a1:=hs.addrD hik
   have cc:CellsAt hh ((addrD A3).add (i * ty35.size)) (gameC (L.getD i game0)):=(hs.cellsD game0 hik).le hle
   have et:=Cl game0 hk3 hik
   generalize L.getD i game0=y at *
   by_cases hP:y.s=season∧y.c=comp
   · have e1:o++[y]=(L.take (i+1)).filter (fun g=>decide (g.s=season∧g.c=comp)):=by rw [et,List.filter_append,← ho];simp [hP]
     repeat' (first|apply Ac|apply Av|apply Ah|apply Ag|apply Aa|apply Ab|(apply Bf;(iterate 3 exact J);omega;exact J;exact J)|(apply Ad;(iterate 3 exact J))|(apply Be;exact J;exact J;(first|(apply Az (j:=i);(iterate 5 exact J);exact a1;(with_reducible exact J);omega)|(apply Aq;exact J;first|exact Bh rfl (by assumption) rfl|exact Bz rfl (by assumption) rfl|exact By rfl (by assumption) rfl|exact Lv_roF3 rfl (by assumption) rfl));exact QA)|(apply Ai;(iterate 3 exact J);(first|(apply At (enc:=gameC) (n:=1) [y];(iterate 3 exact J);exact List.cons_ne_nil _ _;(iterate 4 exact J);exact Cv;exact J;exact J;intro bz2 hz2 hlez2 hs2;skip)|(apply Bg (enc:=gameC) (n:=m) (xs:=o) (ys:=[y]);(iterate 7 exact J);exact (hs2.le QL);exact Cv;exact Ft;intro v1;exact QR;omega;exact J;intro A2 c2;skip)))|(apply Af;exact J;all_goals (intro hc;try simp only [hcS,reduceCtorEq] at hc;try (exfalso;omega)))|(apply Bc;exact J;exact J;all_goals (intro hc;try simp only [hcS,reduceCtorEq] at hc;try (exfalso;omega))))
     all_goals (try (exfalso;omega))
     all_goals
      have h3:=ih (i+1,m+1,o++[y],A2,c2,hz2) ⟨by dsimp only;omega,by simp [hm],by dsimp only;omega,by dsimp only;exact hle.trans QL,e1⟩ (by dsimp only;omega)
      dsimp only at h3
      refine Bn QS QT (h3)
   · have e1:o=(L.take (i+1)).filter (fun g=>decide (g.s=season∧g.c=comp)):=by rw [et,List.filter_append,← ho];simp [hP]
     repeat' (first|apply Ac|apply Av|apply Ah|apply Ag|apply Aa|apply Ab|(apply Au;exact J;exact J)|(apply Bf;(iterate 3 exact J);omega;exact J;exact J)|(apply Ad;(iterate 3 exact J))|(apply Be;exact J;exact J;(first|(apply Az (j:=i);(iterate 5 exact J);exact a1;(with_reducible exact J);omega)|(apply Aq;exact J;first|exact Bh rfl (by assumption) rfl|exact Bz rfl (by assumption) rfl|exact By rfl (by assumption) rfl|exact Lv_roF3 rfl (by assumption) rfl));exact QA)|(apply Af;exact J;all_goals (intro hc;try simp only [hcS,reduceCtorEq] at hc;try (exfalso;omega)))|(apply Bc;exact J;exact J;all_goals (intro hc;try simp only [hcS,reduceCtorEq] at hc;try (exfalso;omega))))
     all_goals (try (exfalso;omega))
     all_goals
      have h3:=ih (i+1,m,o,A4,c4,hh) ⟨by dsimp only;omega,hm,by dsimp only;omega,by dsimp only;exact hle,e1⟩ (by dsimp only;omega)
      dsimp only at h3
      refine Bn QS QT (h3)
 · rw [List.take_of_length_le (by omega)] at ho
   clear ih
   have e1:o=gamesL l season comp:=by
    rw [ho]
    refine ltG_ext (List.Pairwise.filter _ hLp) (Nq l season comp) fun x => ?_
    rw [List.mem_filter,decide_eq_true_eq,hLm,Gk]
    exact ⟨fun ⟨a,b⟩=>⟨b.1,b.2,a⟩,fun ⟨a,b,d⟩=>⟨d,a,b⟩⟩
   repeat' (first|apply Ac|apply Aa|apply Ab|(apply Bl;exact J)|(apply Ad;(iterate 3 exact J))|(apply Af;exact J;all_goals (intro hc;try simp only [hcS,reduceCtorEq] at hc;try (exfalso;omega))))
   all_goals (try (exfalso;omega))
   all_goals
    refine Hl (enc:=gameC) (xs:=o) Cv hm QK ?_
    intro A9 c9 h9 hle9 e9 hs9
    injection e9 with e91 _ e93
    subst e91;subst e93
    refine Bt rfl rfl rfl ?_
    rw [← e1,hm]
    exact ⟨_,_,rfl,hs9⟩
end Go.Hw

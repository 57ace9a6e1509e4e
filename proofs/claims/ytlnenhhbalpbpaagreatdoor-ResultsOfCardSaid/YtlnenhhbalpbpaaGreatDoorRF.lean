import Derived.Test.YtlnenhhbalpbpaaGreatDoorRE
import Derived.Test.YtlnenhhbalpbpaaGreatDoorEB
set_option linter.all false
set_option maxRecDepth 100000
set_option maxHeartbeats 8000000
namespace Go.Hw
open Go
attribute [local irreducible] GO GOl GDp Val Fn Res Ab Du Blk Bd Cd Bf Has Yl Cra
open Go.Proofs.Tryz (prog)
end Go.Hw
namespace Go.Hw
open Go
attribute [local irreducible] GO GOl GDp Val Fn Res Ab Du Blk Bd Cd Bf Has Yl Cra
open Go.Proofs.Tryz (prog)
def Lm (C:List (Fsh×Fct)):List Ak:=C.foldl (fun o p=>if p.2.kind=3 then Ok p.2.sh.g o else o) []
theorem Ys (C:List (Fsh×Fct))(p:Fsh×Fct):Lm (C++[p])=if p.2.kind=3 then Ok p.2.sh.g (Lm C) else Lm C:=by
 unfold Lm;rw [List.foldl_append];rfl
theorem I5a {g:Ak}:∀ {l:List Ak},(Ok g l).length≤l.length+1
 | []=>by simp [Ok]
 | y::r=>by
   unfold Ok
   split
   · simp
   · split
     · simp
     · have:=I5a (g:=g) (l:=r);simp;omega
theorem Dha (C:List (Fsh×Fct)):(Lm C).Pairwise LtG∧(Lm C).length≤C.length∧∀ x,x∈Lm C↔∃ p∈C,p.2.kind=3∧p.2.sh.g=x:=by
 refine Nq (P:=fun C=>(Lm C).Pairwise LtG∧(Lm C).length≤C.length∧∀ x,x∈Lm C↔∃ p∈C,p.2.kind=3∧p.2.sh.g=x) (by simp [Lm]) (fun C p ih => ?_) C
 obtain ⟨h1,h2,h3⟩:=ih
 rw [Ys]
 split
 · rename_i hk
   refine ⟨insG_lt h1,?_,fun x => ?_⟩
   · have:=I5a (g:=p.2.sh.g) (l:=Lm C);simp;omega
   · rw [Bca,h3]
     constructor
     · rintro (e|⟨q,hq,e⟩)
       · exact ⟨p,by simp,hk,e.symm⟩
       · exact ⟨q,by simp [hq],e⟩
     · rintro ⟨q,hq,e⟩
       rw [List.mem_append,List.mem_singleton] at hq
       rcases hq with hq|rfl
       · exact .inr ⟨q,hq,e⟩
       · exact .inl e.2.symm
 · rename_i hk
   refine ⟨h1,by simp;omega,fun x => ?_⟩
   rw [h3]
   constructor
   · rintro ⟨q,hq,e⟩;exact ⟨q,by simp [hq],e⟩
   · rintro ⟨q,hq,e⟩
     rw [List.mem_append,List.mem_singleton] at hq
     rcases hq with hq|rfl
     · exact ⟨q,hq,e⟩
     · exact absurd e.1 hk
theorem playedR_c (h:Ro)(A:Option Addr)(n c:Nat)(l:List (Fsh×Fct))(hx:Au h A n l)(hn:n≤65536):Res prog 290 #[.slice A n c] h (fun u h'=>∃ A' c' L,u=.slice A' L.length c'∧Ar Cx 4 h' A' L.length L∧L.length≤65536∧L.Pairwise LtG∧∀ x,x∈L↔∃ f∈Oa l,f.kind=3∧Bm f∧f.sh.g=x):=by
 refine QXR Proofs.Tryz.func290 fun w0 X0=>?_
 have h32:Mk (fcs l):=Ta hx.fat
 have hxl:=hx.row.len
 repeat' (first|refine QF ?_|(refine QG ?_;first|(refine QDz ?_;rintro w1 h1 hle1 ⟨A3,k3,c3,l3,rfl,hL⟩)|(refine QB0 ?_;intro b2 h2 hle2 hcs2))|fail)
 have hlen3:=hL.2.1.row.len
 have hcl:=Aaa h32
 rw [← hL.2.2,List.length_map,List.length_map,hlen3,hxl] at hcl
 have hO:Ar Cx 4 h2 (some ⟨b2,0,none⟩) (Lm (l3.take 0)).length (Lm (l3.take 0)):=Ar.of_flat (fun _=>rfl) rfl hcs2
 refine Ai (X:=Nat×Option Addr×Nat×Ro) (fun x=>x.1≤k3∧Le h2 x.2.2.2∧Ar Cx 4 x.2.2.2 x.2.1 (Lm (l3.take x.1)).length (Lm (l3.take x.1))) (fun x=>k3-x.1)
  (fun x=>[(5,.int .i64 x.1),(4,.slice x.2.1 (Lm (l3.take x.1)).length x.2.2.1),(3,.slice A3 k3 c3)]) (fun _=>[]) (fun x=>x.2.2.2) (0,some ⟨b2,0,none⟩,0,h2) ⟨by dsimp only;omega,Le.refl _,hO⟩ QS QT rfl ?_
 rintro ⟨i,A4,c4,hh⟩ ⟨hi,hle,hs⟩ ih
 dsimp only at hi hle hs ih ⊢
 by_cases hik:i<k3
 · have a1:=hL.2.1.row.addrD hik
   have cc:Ab hh ((addrD A3).add (i * Ara.size)) (Aq (l3.getD i p0)):=(hL.2.1.row.cellsD p0 hik).le QAa
   have et:=Cb p0 hlen3 hik
   generalize l3.getD i p0=q at *
   have hpn:=(Dha (l3.take i)).2.1
   rw [List.length_take] at hpn
   have esn:=Ys (l3.take i) q
   rw [← et] at esn
   by_cases hk:q.2.kind=3
   · rw [if_pos hk] at esn
     repeat' (first|refine QF ?_|(apply Af;exact J;exact J;(first|exact QAg|exact QAb);exact QA)|(refine QG ?_;first|(apply Ag;exact J;exact has328;exact withG_c _ A4 _ c4 (Lm (l3.take i)) (hs.le QAa) QAd q.2.sh.g;rintro w5 h5 hle5 ⟨A5,c5,rfl,hs5⟩))|(refine QH ?_ ?_<;>intro hc<;>try omega)|fail)
     all_goals (try (exfalso;omega))
     all_goals
      rw [← esn] at hs5
      have h3:=ih (i+1,A5,c5,h5) ⟨by dsimp only;omega,by dsimp only;exact hle.trans hle5,hs5⟩ QAh
      dsimp only at h3
      rw [esn] at h3
      refine Aj QS QT (h3)
   · rw [if_neg hk] at esn
     repeat' (first|refine QF ?_|(apply Af;exact J;exact J;(first|exact QAg|exact QAb);exact QA)|(refine QH ?_ ?_<;>intro hc<;>try omega)|fail)
     all_goals (try (exfalso;omega))
     all_goals
      have h3:=ih (i+1,A4,c4,hh) ⟨by dsimp only;omega,hle,by dsimp only;rw [esn];exact hs⟩ QAh
      dsimp only at h3
      rw [esn] at h3
      refine Aj QS QT (h3)
 · rw [List.take_of_length_le QAd] at hs ⊢
   clear ih
   obtain ⟨p1,p2,p3⟩:=Dha l3
   obtain ⟨q1,q2⟩:=Bx (fcs l) h32
   repeat' (first|refine QF ?_|(refine QH ?_ ?_<;>intro hc<;>try omega)|fail)
   all_goals (try (exfalso;omega))
   all_goals
    refine Ay rfl rfl rfl ⟨A4,c4,Lm l3,rfl,hs,by omega,p1,fun x => ?_⟩
    rw [p3]
    constructor
    · rintro ⟨p,hp,e1,e2⟩
      have hm:=(q2 p.2).1 (hL.2.2 ▸ List.mem_map.2 ⟨p,hp,rfl⟩)
      exact ⟨p.2,hm.1,e1,hm.2,e2⟩
    · rintro ⟨f,hf,e1,e2,e3⟩
      have hm:f∈fcs l3:=hL.2.2.symm ▸ (q2 f).2 ⟨hf,e2⟩
      obtain ⟨p,hp,rfl⟩:=List.mem_map.1 hm
      exact ⟨p,hp,e1,e3⟩
theorem gamesR_c (h:Ro)(A:Option Addr)(n c:Nat)(l:List (Fsh×Fct))(hx:Au h A n l)(hn:n≤65536)(season comp:Int):Res prog 229 #[.slice A n c,.int .i64 season,.int .i64 comp] h (fun u h'=>∃ A c,u=.slice A (Gv l season comp).length c∧Ar Cx 4 h' A (Gv l season comp).length (Gv l season comp)):=by
 refine QXR Proofs.Tryz.func229 fun w0 X0=>?_
 repeat' (first|refine QF ?_|(refine QG ?_;first|(refine QAj ?_;intro b1)|(apply Ag;exact J;exact has290;exact playedR_c _ A n c l (hx.le QAa) hn;rintro w1 h1 hle1 ⟨A3,c3,L,rfl,hs,hLn,hLp,hLm⟩))|fail)
 obtain ⟨k3,hk3⟩:∃ k3,L.length=k3:=⟨_,rfl⟩
 rw [hk3] at hs hLn ⊢
 refine Ai (X:=Nat×Nat×List Ak×Option Addr×Nat×Ro) (fun x=>x.1≤k3∧x.2.2.1.length=x.2.1∧x.2.1≤x.1∧Le h1 x.2.2.2.2.2∧x.2.2.1=(L.take x.1).filter (fun g=>decide (g.s=season∧g.c=comp))) (fun x=>k3-x.1)
  (fun x=>[(9,.int .i64 x.1),(8,.slice A3 k3 c3),(7,.slice x.2.2.2.1 x.2.1 x.2.2.2.2.1),(1,.int .i64 season),(2,.int .i64 comp)])
  (fun x=>[Bd 24 4 (.slice x.2.2.2.1 x.2.1 x.2.2.2.2.1) x.2.1 (x.2.2.1.flatMap Cx)]) (fun x=>x.2.2.2.2.2) (0,0,[],some ⟨b1,0,none⟩,0,h1) ⟨by dsimp only;omega,rfl,by dsimp only;omega,Le.refl _,by simp⟩ QS QT rfl ?_
 rintro ⟨i,m,o,A4,c4,hh⟩ ⟨hi,hm,hmi,hle,ho⟩ ih
 dsimp only at hi hm hmi hle ho ih ⊢
 by_cases hik:i<k3
 · have a1:=hs.addrD hik
   have cc:Ab hh ((addrD A3).add (i * ty24.size)) (Cx (L.getD i Ol)):=(hs.cellsD Ol hik).le hle
   have et:=Cb Ol hk3 hik
   generalize L.getD i Ol=y at *
   by_cases hP:y.s=season∧y.c=comp
   · have e1:o++[y]=(L.take (i+1)).filter (fun g=>decide (g.s=season∧g.c=comp)):=by rw [et,List.filter_append,← ho];simp [hP]
     repeat' (first|refine QF ?_|(apply Af;exact J;exact J;(first|exact QAg|exact QAb);exact QA)|(refine QG ?_;first|(refine QAr ?_;intro bz2 hz2 hlez2 hs2)|(refine QAp ?_;intro A2 c2))|(refine QH ?_ ?_<;>intro hc<;>try omega)|refine QJ ?_|(refine QI ?_ ?_<;>intro hc<;>try omega)|fail)
     all_goals (try (exfalso;omega))
     all_goals
      have h3:=ih (i+1,m+1,o++[y],A2,c2,hz2) ⟨by dsimp only;omega,by simp [hm],by dsimp only;omega,by dsimp only;exact hle.trans QAa,e1⟩ QAh
      dsimp only at h3
      refine Aj QS QT (h3)
   · have e1:o=(L.take (i+1)).filter (fun g=>decide (g.s=season∧g.c=comp)):=by rw [et,List.filter_append,← ho];simp [hP]
     repeat' (first|refine QF ?_|(apply Af;exact J;exact J;(first|exact QAg|exact QAb);exact QA)|(refine QH ?_ ?_<;>intro hc<;>try omega)|refine QJ ?_|(refine QI ?_ ?_<;>intro hc<;>try omega)|fail)
     all_goals (try (exfalso;omega))
     all_goals
      have h3:=ih (i+1,m,o,A4,c4,hh) ⟨by dsimp only;omega,hm,by dsimp only;omega,by dsimp only;exact hle,e1⟩ QAh
      dsimp only at h3
      refine Aj QS QT (h3)
 · rw [List.take_of_length_le QAd] at ho
   clear ih
   have e1:o=Gv l season comp:=by
    rw [ho]
    refine ltG_ext (List.Pairwise.filter _ hLp) (Wh l season comp) fun x => ?_
    rw [List.mem_filter,decide_eq_true_eq,hLm,Kw]
    exact ⟨fun ⟨a,b⟩=>⟨b.1,b.2,a⟩,fun ⟨a,b,d⟩=>⟨d,a,b⟩⟩
   repeat' (first|refine QF ?_|(refine QH ?_ ?_<;>intro hc<;>try omega)|fail)
   all_goals (try (exfalso;omega))
   all_goals
    refine Nj (enc:=Cx) (xs:=o) Ia hm QK ?_
    intro A9 c9 h9 hle9 e9 hs9
    injection e9 with e91 _ e93
    subst e91;subst e93
    refine Ay rfl rfl rfl ?_
    rw [← e1,hm]
    exact ⟨_,_,rfl,hs9⟩
end Go.Hw

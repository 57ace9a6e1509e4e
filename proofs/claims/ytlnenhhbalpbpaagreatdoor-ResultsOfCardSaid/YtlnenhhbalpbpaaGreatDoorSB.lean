import Derived.Test.YtlnenhhbalpbpaaGreatDoorSA
import Derived.Test.YtlnenhhbalpbpaaGreatDoorRA
set_option linter.all false
set_option maxRecDepth 100000
set_option maxHeartbeats 4000000
namespace Go.Hw
open Go
attribute [local irreducible] GO GOl GDp Val Fn Res Ab Du Blk Bd Cd Bf Has Yl Cra
open Go.Proofs.Tryz (prog)
theorem Iea (h:Ro)(A:Option Addr)(n c:Nat)(l:List Int)(hx:Ar Cu 1 h A n l)(hn:n≤9223372036854775807)(B:Option Addr)(m d:Nat)(r:List Int)(hy:Ar Cu 1 h B m r)(hm:m≤9223372036854775807) :
  Val prog 110 #[.slice A n c,.slice B m d] h (.bool (decide (l=r))):=by
 refine QXV Proofs.Tryz.func110 fun w0 X0=>?_
 have hlen:=hx.len
 have hlen2:=hy.len
 by_cases hnm:n=m
 · subst hnm
   repeat' (first|refine QF ?_|(refine QH ?_ ?_<;>intro hc<;>try omega)|fail)
   · refine Ai (X:=Nat) (fun k=>k≤n∧l.take k=r.take k) (fun k=>n-k) (fun k=>[(5,.int .i64 k),(0,.slice A n c),(1,.slice B n d)]) (fun _=>[]) (fun _=>h) 0 ⟨by omega,rfl⟩ QS QT rfl ?_
     rintro k ⟨hk,hI⟩ ih
     by_cases hkn:k<n
     · have a1:=hx.addrD hkn
       have c1:=hx.cellsD 0 hkn
       have a2:=hy.addrD hkn
       have c2:=hy.cellsD 0 hkn
       have ht1:=Cb 0 hlen hkn
       have ht2:=Cb 0 hlen2 hkn
       have hne:l.getD k 0≠r.getD k 0→l≠r:=fun h1 h2=>h1 (by rw [h2])
       generalize l.getD k 0=u at *
       generalize r.getD k 0=v at *
       repeat' (first|refine QF ?_|(apply Ad (n:=6) [0,1,2,3,4,5,6,7,8] [(0,0),(1,0),(2,0),(3,0),(4,0),(5,0),(6,0),(7,0),(8,0)];kernel_rfl)|(apply Bk;exact J;kernel_rfl;exact J;exact J;(first|exact QAc|exact QBa|exact QAf|exact QA2);exact QA)|(refine QH ?_ ?_<;>intro hc<;>try omega)|fail)
       · (first|(apply Ac;(iterate 3 exact J)))
         rw [decide_eq_false (hne QAd)]
       · have h3:=ih (k+1) ⟨by omega,by have e5:u=v:=QAd;rw [ht1,ht2,hI,e5]⟩ QAd
         refine Aj QS QT (h3)
     · repeat' (first|refine QF ?_|(refine QH ?_ ?_<;>intro hc<;>try omega)|(apply Ac;(iterate 3 exact J)))
       rw [List.take_of_length_le QAd,List.take_of_length_le QAd] at hI
       rw [decide_eq_true hI]
 · repeat' (first|refine QF ?_|(refine QH ?_ ?_<;>intro hc<;>try omega)|(apply Ac;(iterate 3 exact J)))
   rw [decide_eq_false];intro hh;subst hh;omega
theorem Ifa (h:Ro)(A:Option Addr)(n c:Nat)(l:List Dx)(hx:Ar Ox 2 h A n l)(hn:n≤9223372036854775807)(B:Option Addr)(m d:Nat)(r:List Dx)(hy:Ar Ox 2 h B m r)(hm:m≤9223372036854775807) :
  Val prog 111 #[.slice A n c,.slice B m d] h (.bool (decide (l=r))):=by
 refine QXV Proofs.Tryz.func111 fun w0 X0=>?_
 have hlen:=hx.len
 have hlen2:=hy.len
 by_cases hnm:n=m
 · subst hnm
   repeat' (first|refine QF ?_|(refine QH ?_ ?_<;>intro hc<;>try omega)|fail)
   · refine Ai (X:=Nat) (fun k=>k≤n∧l.take k=r.take k) (fun k=>n-k) (fun k=>[(5,.int .i64 k),(0,.slice A n c),(1,.slice B n d)]) (fun _=>[]) (fun _=>h) 0 ⟨by omega,rfl⟩ QS QT rfl ?_
     rintro k ⟨hk,hI⟩ ih
     by_cases hkn:k<n
     · have a1:=hx.addrD hkn
       have c1:=hx.cellsD Dg hkn
       have a2:=hy.addrD hkn
       have c2:=hy.cellsD Dg hkn
       have ht1:=Cb Dg hlen hkn
       have ht2:=Cb Dg hlen2 hkn
       have hne:l.getD k Dg≠r.getD k Dg→l≠r:=fun h1 h2=>h1 (by rw [h2])
       generalize l.getD k Dg=u at *
       generalize r.getD k Dg=v at *
       obtain ⟨up,ur⟩:=u
       obtain ⟨vp,vr⟩:=v
       repeat' (first|refine QF ?_|(apply Ad (n:=6) [0,1,2,3,4,5,6,7,8] [(0,0),(1,0),(2,0),(3,0),(4,0),(5,0),(6,0),(7,0),(8,0)];kernel_rfl)|(apply Bk;exact J;kernel_rfl;exact J;exact J;(first|exact QAc|exact QBa|exact QAf|exact QA2|exact QFc);exact QA)|(refine QH ?_ ?_<;>intro hc<;>try omega)|fail)
       · (first|(apply Ac;(iterate 3 exact J)))
         rw [decide_eq_false (hne QDc)]
       · have h3:=ih (k+1) ⟨by omega,by
          simp [Fe] at hc
          rw [ht1,ht2,hI,hc.1,hc.2]⟩ QAd
         refine Aj QS QT (h3)
     · repeat' (first|refine QF ?_|(refine QH ?_ ?_<;>intro hc<;>try omega)|(apply Ac;(iterate 3 exact J)))
       rw [List.take_of_length_le QAd,List.take_of_length_le QAd] at hI
       rw [decide_eq_true hI]
 · repeat' (first|refine QF ?_|(refine QH ?_ ?_<;>intro hc<;>try omega)|(apply Ac;(iterate 3 exact J)))
   rw [decide_eq_false];intro hh;subst hh;omega
theorem C8a (h:Ro)(s:Fsh)(x:Ce)(hx:Kj h s x)(hxs:Tu x)(t:Fsh)(y:Ce)(hy:Kj h t y)(hys:Tu y):Val prog 69 #[Kq s x,Kq t y] h (.bool (decide (Hh x y))):=by
 refine QXV Proofs.Tryz.func69 fun w0 X0=>?_
 obtain ⟨n1,n2,n3,n4⟩:=hx.small hxs
 obtain ⟨m1,m2,m3,m4⟩:=hy.small hys
 repeat' (first|refine QF ?_|(apply Af;exact J;exact J;(first|exact QA0);exact QA)|(refine QB ?_;intro b)|(refine QG ?_;first|(apply Aa;exact J;exact has110;first|exact Iea _ _ _ _ x.hs (hx.hs.le QAa) QAd _ _ _ y.hs (hy.hs.le QAa) QAd|exact Iea _ _ _ _ x.as (hx.as.le QAa) QAd _ _ _ y.as (hy.as.le QAa) QAd)|(apply Aa;exact J;exact has111;first|exact Ifa _ _ _ _ x.hc (hx.hc.le QAa) QAd _ _ _ y.hc (hy.hc.le QAa) QAd|exact Ifa _ _ _ _ x.ac (hx.ac.le QAa) QAd _ _ _ y.ac (hy.ac.le QAa) QAd))|refine QJ ?_|(refine QI ?_ ?_<;>intro hc<;>try omega)|fail)
 all_goals (first|(apply Ac;(iterate 3 exact J)))
 all_goals (clear hx hy;refine Bg ?_)
 all_goals (rw [Og];grind)
def Tt (s:Fsh) (f:Fct):Prop:=s.cl.n≤60∧f.eRules.length≤100∧s.hs.n≤60∧s.as.n≤60∧s.hc.n≤60∧s.ac.n≤60∧s.lo.n≤60
instance (s:Fsh) (f:Fct):Decidable (Tt s f):=by unfold Tt;infer_instance
theorem small_c (h:Ro)(s:Fsh)(f:Fct):Val prog 25 #[Br s f] h (.bool (decide (Tt s f))):=by
 refine QXV Proofs.Tryz.func25 fun w0 X0=>?_
 repeat' (first|refine QF ?_|(refine QB ?_;intro b)|refine QJ ?_|(refine QI ?_ ?_<;>intro hc<;>try omega)|fail)
 all_goals (first|(apply Ac;(iterate 3 exact J)))
 all_goals (refine Bg ?_;(try simp only [Nn,Me,leI_f] at *);unfold Tt;first|omega|(simp only [Bool.false_eq_true,false_iff];omega))
theorem fewF_c (h:Ro)(A:Option Addr)(n c:Nat)(l:List (Fsh×Fct))(hx:Ar Aq 82 h A n l)(hn:n≤9223372036854775807)(most:Int):Val prog 9 #[.slice A n c,.int .i64 most] h (.bool (decide ((∀ p∈l,Tt p.1 p.2)∧(n:Int)≤most))):=by
 refine QXV Proofs.Tryz.func9 fun w0 X0=>?_
 have hlen:=hx.len
 repeat' (first|refine QF ?_|fail)
 refine Ai (X:=Nat) (fun k=>k≤n∧∀ p∈l.take k,Tt p.1 p.2) (fun k=>n-k) (fun k=>[(5,.int .i64 k),(0,.slice A n c),(1,.int .i64 most)]) (fun _=>[]) (fun _=>h) 0 ⟨by omega,by simp⟩ QS QT rfl ?_
 rintro k ⟨hk,hI⟩ ih
 by_cases hkn:k<n
 · have a1:=hx.addrD hkn
   have c1:=hx.cellsD p0 hkn
   have ht1:=Cb p0 hlen hkn
   have hm:=mem7 p0 (show k<l.length by omega)
   generalize l.getD k p0=p at *
   have hs:=small_c h p.1 p.2
   by_cases hp:Tt p.1 p.2
   · rw [decide_eq_true hp] at hs
     repeat' (first|refine QF ?_|(apply Af;exact J;exact J;(first|exact QAc|exact QAf);exact QA)|(refine QG ?_;first|(apply Aa;exact J;exact has25;exact hs))|(refine QH ?_ ?_<;>intro hc<;>try omega)|fail)
     all_goals
      have h3:=ih (k+1) ⟨by omega,by
       rw [ht1];intro q hq
       rw [List.mem_append,List.mem_singleton] at hq
       rcases hq with hq|rfl
       · exact hI q hq
       · exact hp⟩ QAd
      refine Aj QS QT (h3)
   · rw [decide_eq_false hp] at hs
     repeat' (first|refine QF ?_|(apply Af;exact J;exact J;(first|exact QAc|exact QAf);exact QA)|(refine QG ?_;first|(apply Aa;exact J;exact has25;exact hs))|(refine QH ?_ ?_<;>intro hc<;>try omega)|(apply Ac;(iterate 3 exact J)))
     all_goals (rw [decide_eq_false];rintro ⟨h1,_⟩;exact hp (h1 p hm))
 · rw [List.take_of_length_le QAd] at hI
   repeat' (first|refine QF ?_|(refine QH ?_ ?_<;>intro hc<;>try omega)|(apply Ac;(iterate 3 exact J)))
   all_goals (refine Bg ?_;rw [Me];exact ⟨fun h=>⟨hI,h⟩,fun h=>h.2⟩)
def shF (r g d k:Int):Fct:={ Ef with kind:=3,day:=d,known:=k,sh:={ Fd with g:=⟨0,0,1,2⟩,ref:=r,hg:=g } }
def Oa (l:List (Fsh×Fct)):List Fct:=l.map (·.2)
theorem Yh:∀ (ws:List (Fsh×Fct)) (p:Pr),(∀ x∈ws,x.2.kind=3∧(x.2.sh.ref=0∨x.2.sh.ref=1)) →
  Dpa (ws.foldl Gb p).1=((Oa ws).filter fun f=>decide (f.sh.ref=0)).foldl Uc (Dpa p.1)∧Dpa (ws.foldl Gb p).2=((Oa ws).filter fun f=>decide (f.sh.ref=1)).foldl Uc (Dpa p.2)
 | [],p,_=>⟨rfl,rfl⟩
 | x::ws,p,hw=>by
   obtain ⟨hk,hr⟩:=hw x List.mem_cons_self
   obtain ⟨ih1,ih2⟩:=Yh ws (Gb p x) (fun y hy=>hw y (List.mem_cons_of_mem _ hy))
   have hc:Oa (x::ws)=x.2::Oa ws:=rfl
   have one:∀ y:Fsh×Fct,Dpa (if y.2.kind=0∨Gp y.2 x.2<0 then x else y)=Uc (Dpa y) x.2:=fun y=>by
    unfold Dpa Uc
    by_cases h1:y.2.kind=0
    · simp [h1,hk]
    · by_cases h2:Gp y.2 x.2<0
      · simp [h1,h2,hk]
      · simp [h1,h2]
   rw [hc,List.filter_cons,List.filter_cons,List.foldl_cons,ih1,ih2]
   rcases hr with hr|hr
   · have e1:(Gb p x).1=if p.1.2.kind=0∨Gp p.1.2 x.2<0 then x else p.1:=by unfold Gb;rw [if_pos hr];split <;> rfl
     have e2:(Gb p x).2=p.2:=by unfold Gb;rw [if_pos hr];split <;> rfl
     rw [e1,e2,one,hr]
     exact ⟨rfl,rfl⟩
   · have hr0:¬ x.2.sh.ref=0:=by omega
     have e1:(Gb p x).1=p.1:=by unfold Gb;rw [if_neg hr0];split <;> rfl
     have e2:(Gb p x).2=if p.2.2.kind=0∨Gp p.2.2 x.2<0 then x else p.2:=by unfold Gb;rw [if_neg hr0];split <;> rfl
     rw [e1,e2,one,hr]
     exact ⟨rfl,rfl⟩
theorem Dfa (g:Ak):∀ (vs:List (Fsh×Fct)) (m:List (Ak×Pr)),(Cf g (vs.foldl putP m)).getD pr0=(vs.filter fun x=>decide (x.2.sh.g=g)).foldl Gb ((Cf g m).getD pr0)
 | [],m=>rfl
 | x::vs,m=>by
   rw [List.foldl_cons,Dfa g vs,List.filter_cons]
   unfold putP
   rw [Si]
   by_cases h:x.2.sh.g=g
   · simp only [h,if_true,decide_true,Option.getD_some,List.foldl_cons]
   · simp only [h,if_false,decide_false,Bool.false_eq_true]
noncomputable def Sf (l:List (Fsh×Fct)) (g:Ak):List (Fsh×Fct):=(Cv l).filter fun x=>decide (x.2.sh.g=g)
theorem prOf_eq (l:List (Fsh×Fct))(g:Ak):prOf l g=(Sf l g).foldl Gb pr0:=Dfa g (Cv l) []
open Classical in
theorem K3a {l:List (Fsh×Fct)}{g:Ak}{x:Fsh×Fct}:x∈Sf l g↔x∈l∧x.2.kind=3∧Bm x.2∧x.2.sh.g=g:=by
 unfold Sf Cv
 rw [List.mem_filter,List.mem_filter,decide_eq_true_eq,decide_eq_true_eq]
 exact ⟨fun ⟨⟨h1,h2,h3⟩,h4⟩=>⟨h1,h2,h3,h4⟩,fun ⟨h1,h2,h3,h4⟩=>⟨⟨h1,h2,h3⟩,h4⟩⟩
open Classical in
theorem Yv (l:List (Fsh×Fct))(g:Ak)(r:Int):(Oa (Sf l g)).filter (fun f=>decide (f.sh.ref=r))=selF (Oa l) g r:=by
 unfold Oa selF Sf Cv
 rw [List.filter_map,List.filter_map,List.filter_filter,List.filter_filter]
 congr 1
 refine List.filter_congr fun x _ => ?_
 rw [Bool.eq_iff_iff]
 simp only [Function.comp_apply,Bool.and_eq_true,decide_eq_true_eq]
 unfold OfGR
 grind
theorem Dga (l:List (Fsh×Fct))(g:Ak):Dpa (prOf l g).1=Gr (Oa l) g 0∧Dpa (prOf l g).2=Gr (Oa l) g 1:=by
 have h:=Yh (Sf l g) pr0 fun x hx=>by
  obtain ⟨_,h2,h3,_⟩:=K3a.1 hx
  exact ⟨h2,ref_of h3 h2⟩
 rw [Yv,Yv,← prOf_eq] at h
 exact h
theorem scoreP_eq (l:List (Fsh×Fct))(g:Ak):Ht (prOf l g)=Bj (Oa l) g:=by
 unfold Ht Bj
 rw [(Dga l g).1,(Dga l g).2]
noncomputable def Hba (l:List Fct) (g:Ak) (r:Int):Fct:=(Gr l g r).getD Ef
end Go.Hw
namespace Go.Hw
open Go
attribute [local irreducible] GO GOl GDp Val Fn Res Ab Du Blk Bd Cd Bf Has Yl Cra
open Go.Proofs.Tryz (prog)
theorem Lea {ok:Ak→Pr→Bool}{m:List (Ak×Pr)}{g:Ak}:g∈Gk ok m↔∃ p,(g,p)∈m∧ok g p=true:=by
 unfold Gk
 rw [List.mem_map]
 constructor
 · rintro ⟨q,hq,rfl⟩
   rw [List.mem_filter] at hq
   exact ⟨q.2,hq.1,hq.2⟩
 · rintro ⟨p,h1,h2⟩
   exact ⟨(g,p),List.mem_filter.2 ⟨h1,h2⟩,rfl⟩
theorem D3a {ok:Ak→Pr→Bool}{m:List (Ak×Pr)}(h:(m.map (·.1)).Nodup):(Gk ok m).Nodup:=by
 unfold Gk
 exact (List.filter_sublist.map _).nodup h
theorem Wh (l:List (Fsh×Fct))(s c:Int):(Gv l s c).Pairwise LtG:=sortG_lt (D3a (Dla _))
open Classical in
theorem Kw {l:List (Fsh×Fct)}{g:Ak}{s c:Int}:g∈Gv l s c↔g.s=s∧g.c=c∧∃ f∈Oa l,f.kind=3∧Bm f∧f.sh.g=g:=by
 unfold Gv
 rw [sortG_mem,Lea]
 have hk:(∃ p,(g,p)∈Ou l)↔∃ f∈Oa l,f.kind=3∧Bm f∧f.sh.g=g:=by
  have h1:(∃ p,(g,p)∈Ou l)↔g∈(Fu (Cv l)).map (·.1):=by
   rw [List.mem_map]
   exact ⟨fun ⟨p,h⟩=>⟨(g,p),h,rfl⟩,fun ⟨q,h,e⟩=>⟨q.2,by rw [← e];exact h⟩⟩
  rw [h1,Gda]
  constructor
  · rintro ⟨x,h1,h2⟩
    unfold Cv at h1
    rw [List.mem_filter,decide_eq_true_eq] at h1
    exact ⟨x.2,List.mem_map.2 ⟨x,h1.1,rfl⟩,h1.2.1,h1.2.2,h2⟩
  · rintro ⟨f,h1,h2,h3,h4⟩
    obtain ⟨x,h5,rfl⟩:=List.mem_map.1 h1
    refine ⟨x,?_,h4⟩
    unfold Cv
    rw [List.mem_filter,decide_eq_true_eq]
    exact ⟨h5,h2,h3⟩
 constructor
 · rintro ⟨p,h1,h2⟩
   rw [decide_eq_true_eq] at h2
   exact ⟨h2.1,h2.2,hk.1 ⟨p,h1⟩⟩
 · rintro ⟨h1,h2,h3⟩
   obtain ⟨p,h4⟩:=hk.2 h3
   exact ⟨p,h4,by simp [h1,h2]⟩
def g9:Ak:=⟨0,0,1,2⟩
theorem Ava (h:Ro)(hG:Iv h)(A:Option Addr)(n c:Nat)(l:List (Fsh×Fct))(hx:Au h A n l)(g:Ak):Res prog 16 #[.slice A n c,De g] h (fun u h'=>∃ s,u=Jv s (Bj (Oa l) g)∧Kj h' s (Bj (Oa l) g).sh∧Tu (Bj (Oa l) g).sh):=by
 refine (scoreOf_c h hG A n c l hx g).mono ?_
 rintro v h' hl rfl
 have:=scoreP_at (prOf_at hx g)
 rw [scoreP_eq] at *
 exact ⟨_,rfl,this.1.le hl,this.2⟩
theorem Au.nil (h:Ro):Au h none 0 []:=⟨Ar.nil,fun p hp=>absurd hp QAn,by omega⟩
end Go.Hw
namespace Go.Hw
open Go
attribute [local irreducible] GO GOl GDp Val Fn Res Ab Du Blk Bd Cd Bf Has Yl Cra
open Go.Proofs.Tryz (prog)
def L1:List (Fsh×Fct):=[(Ga,shF 0 3 7 9),(Ga,shF 0 2 7 8)]
def L2:List (Fsh×Fct):=[(Ga,shF 0 2 7 8),(Ga,shF 1 2 9 9)]
end Go.Hw

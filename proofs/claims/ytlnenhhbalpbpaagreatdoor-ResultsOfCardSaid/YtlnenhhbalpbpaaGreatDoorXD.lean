import Derived.Test.YtlnenhhbalpbpaaGreatDoorXA
import Derived.Test.YtlnenhhbalpbpaaGreatDoorRE
import Derived.Test.YtlnenhhbalpbpaaGreatDoorVF
import Derived.Test.YtlnenhhbalpbpaaGreatDoorRF
set_option linter.all false
set_option maxRecDepth 100000
set_option maxHeartbeats 8000000
namespace Go.Hw
open Go
attribute [local irreducible] GO GOl GDp Val Fn Res Ab Du Blk Bd Cd Bf Has Yl Ik Bn Lt Kk Ew Hj Cn Oh Ff Hv Ue
open Go.Proofs.Tryz (prog)
theorem A0a (h:Ro)(A:Option Addr)(n c:Nat)(l:List (Fsh×Fct))(hx:Au h A n l)(hn:n≤65536)(pl day:Int):Res prog 112 #[.slice A n c,.int .i64 pl,.int .i64 day] h (fun u _=>u=.tuple #[.int .i64 (if (Ue (fcs l) pl day).mTo<0 then 0 else (Ue (fcs l) pl day).mTo),.bool (decide (0≤(Ue (fcs l) pl day).mTo))]):=by
 refine QXR Proofs.Tryz.func112 fun w0 X0=>?_
 have h32:Mk (fcs l):=Ta hx.fat
 have hcan:=fun h' (hl:Le h h')=>Uv h' A n c l (hx.le hl) hn
 rw [← regR_eq h32]
 generalize Ba (fcs l)=C at *
 repeat' (first|refine QF ?_|(refine QG ?_;first|(refine QB5 ?_;rintro w1 h1 hle1 ⟨A3,k3,c3,l3,rfl,hL⟩))|fail)
 obtain ⟨_,hLa,hLe⟩:=hL
 have hlen3:=hLa.row.len
 have hk6:=hLa.small
 rw [← hLe]
 clear hcan hLe h32
 refine Ai (X:=Nat) (fun k=>k≤k3) (fun k=>k3-k)
  (fun k=>[(10,.int .i64 k),(9,.int .i64 ((fcs (l3.take k)).foldl (Qd pl day) Oi).day),(8,.int .i64 ((fcs (l3.take k)).foldl (Qd pl day) Oi).mTo),(0,.slice A3 k3 c3),(1,.int .i64 pl),(2,.int .i64 day)])
  (fun _=>[]) (fun _=>h1) 0 QAd QS QT rfl ?_
 rintro k hk ih
 by_cases hkn:k<k3
 · have a1:=hLa.row.addrD hkn
   have cc:Ab h1 ((addrD A3).add (k * Ara.size)) (Aq (l3.getD k p0)):=hLa.row.cellsD p0 hkn
   have et:=Cb p0 hlen3 hkn
   generalize l3.getD k p0=q at *
   have h3:=ih (k+1) QAd QAd
   have hsn:(fcs (l3.take (k+1))).foldl (Qd pl day) Oi=Qd pl day ((fcs (l3.take k)).foldl (Qd pl day) Oi) q.2:=by rw [et,Nx,List.foldl_append];rfl
   rw [hsn] at h3
   generalize (fcs (l3.take k)).foldl (Qd pl day) Oi=z at *
   clear ih hsn et
   unfold Qd at h3
   by_cases hP:q.2.kind=6∧q.2.mP=pl∧q.2.day≤day∧z.day≤q.2.day
   · rw [if_pos hP] at h3
     obtain ⟨p1,p2,p3,p4⟩:=hP
     repeat' (first|refine QFs ?_|(apply Af;exact J;exact J;(first|exact QAc|exact QAo);exact QA)|(refine QB ?_;intro b)|(refine QH ?_ ?_<;>intro hc<;>try omega)|refine QJ ?_|(refine QI ?_ ?_<;>intro hc<;>try omega)|fail)
     all_goals first
      | (exfalso;omega)
      | contradiction
      | (refine Aj QS QT (h3))
   · rw [if_neg hP] at h3
     repeat' (first|refine QFs ?_|(apply Af;exact J;exact J;(first|exact QAc|exact QAo);exact QA)|(refine QB ?_;intro b)|(refine QH ?_ ?_<;>intro hc<;>try omega)|refine QJ ?_|(refine QI ?_ ?_<;>intro hc<;>try omega)|fail)
     all_goals first
      | (exfalso;exact hP ⟨by assumption,by assumption,by assumption,by assumption⟩)
      | (exfalso;omega)
      | contradiction
      | (refine Aj QS QT (h3))
 · rw [List.take_of_length_le QAd]
   clear ih
   generalize ((fcs l3).foldl (Qd pl day) Oi).mTo=t at *
   by_cases ht:t<0
   · rw [if_pos ht,decide_eq_false QAd]
     repeat' (first|refine QF ?_|(refine QH ?_ ?_<;>intro hc<;>try omega)|fail)
     all_goals first
      | (exfalso;omega)
      | (exact Cs rfl rfl rfl rfl rfl)
   · rw [if_neg ht,decide_eq_true QAd]
     repeat' (first|refine QF ?_|(refine QH ?_ ?_<;>intro hc<;>try omega)|fail)
     all_goals first
      | (exfalso;omega)
      | (exact Cs rfl rfl rfl rfl rfl)
open Classical in
theorem movedR_c (h:Ro)(A:Option Addr)(n c:Nat)(l:List (Fsh×Fct))(hx:Au h A n l)(hn:n≤65536)(pl:Int):Res prog 113 #[.slice A n c,.int .i64 pl] h (fun u _=>u=.bool (decide (∃ x∈fcs l,Fja pl x))):=by
 refine QXR Proofs.Tryz.func113 fun w0 X0=>?_
 have h32:Mk (fcs l):=Ta hx.fat
 have hcan:=fun h' (hl:Le h h')=>Uv h' A n c l (hx.le hl) hn
 have hsp:=(Bx (fcs l) h32).2
 repeat' (first|refine QF ?_|(refine QG ?_;first|(refine QB5 ?_;rintro w1 h1 hle1 ⟨A3,k3,c3,l3,rfl,hL⟩))|fail)
 obtain ⟨_,hLa,hLe⟩:=hL
 have hlen3:=hLa.row.len
 have hk6:=hLa.small
 have hex:(∃ x∈fcs l,Fja pl x)↔∃ q∈l3,q.2.kind=6∧q.2.mP=pl:=by
  constructor
  · rintro ⟨x,m,q⟩
    have:x∈fcs l3:=by rw [hLe];exact (hsp x).2 ⟨m,q.2.2⟩
    obtain ⟨y,hy,e⟩:=List.mem_map.1 this
    exact ⟨y,hy,by rw [show y.2=x from e];exact ⟨q.1,q.2.1⟩⟩
  · rintro ⟨y,hy,q1,q2⟩
    have:y.2∈Ba (fcs l):=by rw [← hLe];exact List.mem_map.2 ⟨y,hy,rfl⟩
    have:=(hsp y.2).1 this
    exact ⟨y.2,this.1,q1,q2,this.2⟩
 have hde:decide (∃ x∈fcs l,Fja pl x)=decide (∃ q∈l3,q.2.kind=6∧q.2.mP=pl):=decide_eq_decide.2 hex
 rw [hde]
 clear hcan hLe h32 hsp hex hde
 refine Ai (X:=Nat) (fun k=>k≤k3∧∀ q∈l3.take k,¬ (q.2.kind=6∧q.2.mP=pl)) (fun k=>k3-k)
  (fun k=>[(5,.int .i64 k),(0,.slice A3 k3 c3),(1,.int .i64 pl)])
  (fun _=>[]) (fun _=>h1) 0 ⟨by omega,by simp⟩ QS QT rfl ?_
 rintro k ⟨hk,hI⟩ ih
 by_cases hkn:k<k3
 · have a1:=hLa.row.addrD hkn
   have cc:Ab h1 ((addrD A3).add (k * Ara.size)) (Aq (l3.getD k p0)):=hLa.row.cellsD p0 hkn
   have et:=Cb p0 hlen3 hkn
   have hm:=mem7 p0 (show k<l3.length by omega)
   generalize l3.getD k p0=q at *
   by_cases hP:q.2.kind=6∧q.2.mP=pl
   · rw [decide_eq_true ⟨q,hm,hP⟩]
     obtain ⟨p1,p2⟩:=hP
     clear ih
     repeat' (first|refine QF ?_|(apply Af;exact J;exact J;(first|exact QAc|exact QAo|exact QAb);exact QA)|(refine QH ?_ ?_<;>intro hc<;>try omega)|refine QJ ?_|(refine QI ?_ ?_<;>intro hc<;>try omega)|fail)
     all_goals first
      | (exfalso;omega)
      | contradiction
      | (exact Ay rfl rfl rfl rfl)
   · have h3:=ih (k+1) ⟨by omega,fun y hy=>by
      rw [et,List.mem_append,List.mem_singleton] at hy
      rcases hy with w|w
      · exact hI y w
      · rw [w];exact hP⟩ QAd
     clear ih
     repeat' (first|refine QF ?_|(apply Af;exact J;exact J;(first|exact QAc|exact QAo|exact QAb);exact QA)|(refine QH ?_ ?_<;>intro hc<;>try omega)|refine QJ ?_|(refine QI ?_ ?_<;>intro hc<;>try omega)|fail)
     all_goals first
      | (exfalso;exact hP ⟨by assumption,by assumption⟩)
      | (exfalso;omega)
      | contradiction
      | (refine Aj QS QT (h3))
 · rw [List.take_of_length_le QAd] at hI
   rw [decide_eq_false (fun ⟨q,m,w⟩=>hI q m w)]
   clear ih
   repeat' (first|refine QF ?_|(refine QH ?_ ?_<;>intro hc<;>try omega)|fail)
   all_goals first
    | (exfalso;omega)
    | (exact Ay rfl rfl rfl rfl)
theorem UnfitR_c (h:Ro)(A:Option Addr)(n c:Nat)(l:List (Fsh×Fct))(hx:Au h A n l)(hn:n≤65536)(pl day:Int):Res prog 114 #[.slice A n c,.int .i64 pl,.int .i64 day] h (fun u _=>u=.bool (Iq (Ba (fcs l)) pl day)):=by
 refine QXR Proofs.Tryz.func114 fun w0 X0=>?_
 have e:Iq (Ba (fcs l)) pl day=((Bn (Ba (fcs l))).map (·.ru)).any (unfB pl day):=rfl
 rw [e]
 obtain ⟨L,hL⟩:∃ L,L=(Bn (Ba (fcs l))).map (·.ru):=⟨_,rfl⟩
 have hfi:=fun h' (hl:Le h h')=>Mba h' A n c l (hx.le hl) hn
 rw [← hL] at hfi ⊢
 clear hL e
 repeat' (first|refine QF ?_|(refine QG ?_;first|(apply Ag;exact J;exact has175;exact hfi _ QAa;rintro w1 h1 hle1 ⟨A3,c3,rl,rfl,hsl,rfl,hn3⟩))|fail)
 clear hfi
 refine Ai (X:=Nat) (fun k=>k≤rl.length∧(rl.take k).any (unfB pl day)=false) (fun k=>rl.length-k)
  (fun k=>[(8,.int .i64 k),(7,.slice A3 rl.length c3),(1,.int .i64 pl),(2,.int .i64 day)])
  (fun _=>[]) (fun _=>h1) 0 ⟨by omega,rfl⟩ QS QT rfl ?_
 rintro k ⟨hk,hI⟩ ih
 by_cases hkn:k<rl.length
 · have a1:=hsl.addrD hkn
   have cc:Ab h1 ((addrD A3).add (k * ty39.size)) (Iy (rl.getD k Hu)):=hsl.cellsD Hu hkn
   have et:=Cb Hu (xs:=rl) rfl hkn
   have hm:=mem7 Hu hkn
   generalize rl.getD k Hu=r at *
   by_cases hP:r.kind=6∧r.player=pl∧r.lo≤day∧day≤r.hi
   · have e9:rl.any (unfB pl day)=true:=List.any_eq_true.2 ⟨r,hm,decide_eq_true hP⟩
     rw [e9]
     obtain ⟨p1,p2,p3,p4⟩:=hP
     clear ih
     repeat' (first|refine QF ?_|(apply Af;exact J;exact J;(first|exact QAc|exact QAb);exact QA)|(refine QH ?_ ?_<;>intro hc<;>try omega)|refine QJ ?_|(refine QI ?_ ?_<;>intro hc<;>try omega)|fail)
     all_goals first
      | (exfalso;omega)
      | contradiction
      | (exact Ay rfl rfl rfl rfl)
   · have h3:=ih (k+1) ⟨by omega,by rw [et,List.any_append,hI,List.any_cons,show unfB pl day r=false from decide_eq_false hP];rfl⟩ QAd
     clear ih
     repeat' (first|refine QF ?_|(apply Af;exact J;exact J;(first|exact QAc|exact QAb);exact QA)|(refine QH ?_ ?_<;>intro hc<;>try omega)|refine QJ ?_|(refine QI ?_ ?_<;>intro hc<;>try omega)|fail)
     all_goals first
      | (exfalso;exact hP ⟨by assumption,by assumption,by assumption,by assumption⟩)
      | (exfalso;omega)
      | contradiction
      | (refine Aj QS QT (h3))
 · rw [List.take_of_length_le QAd] at hI
   rw [hI]
   clear ih
   repeat' (first|refine QF ?_|(refine QH ?_ ?_<;>intro hc<;>try omega)|fail)
   all_goals first
    | (exfalso;omega)
    | (exact Ay rfl rfl rfl rfl)
theorem Jua (h:Ro)(x y:Fsh×Az):Val prog 230 #[.agg (Ey x).toArray,.agg (Ey y).toArray] h (.bool (decide (LtS x.2 y.2))):=by
 refine QXV Proofs.Tryz.func230 fun w0 X0=>?_
 repeat' (first|refine QFs ?_|(refine QB ?_;intro b)|(refine QH ?_ ?_<;>intro hc<;>try omega)|fail)
 all_goals (first|(apply Ac;(iterate 3 exact J)))
 all_goals (refine Bg ?_;(try simp only [ltI_t,ltI_f,Ib,eqI_f] at *);unfold LtS;omega)
theorem Kba (h:Ro)(s:Fsh)(x:Ce)(hx:Kj h s x)(hl:x.hc.length≤1000∧x.ac.length≤1000)(p:Int):Res prog 178 #[Kq s x,.int .i64 p] h (fun u _=>u=.tuple #[.int .i64 (Ff x p).1,.bool (Ff x p).2]):=by
 refine QXR Proofs.Tryz.func178 fun w0 X0=>?_
 have hn1:=hx.hc.len
 have hn2:=hx.ac.len
 have hh:=hx.hc
 have ha:=hx.ac
 obtain ⟨cs,hcs⟩:∃ cs,cs=x.hc++x.ac:=⟨_,rfl⟩
 have hcl:cs.length=s.hc.n+s.ac.n:=by rw [hcs,List.length_append,hn1,hn2]
 have hcf:Ff x p=cs.foldl (Js p) (0,false):=by rw [hcs];unfold Ff;rfl
 repeat' (first|refine QF ?_|(refine QB ?_;intro b)|(apply Ad (n:=3) [0,1,2,3,4,5,6,7] [(1,0),(2,0),(4,0),(5,0),(0,1),(3,1),(6,1),(7,0)];kernel_rfl)|(apply Ao;exact J;kernel_rfl;(iterate 3 exact J);(first|(refine QAj ?_;intro b8;refine ⟨Le.refl _,QN,?_⟩)|(apply Ap (enc:=Ox) (n:=0) (xs:=[]) (ys:=x.hc);(iterate 7 exact J);exact hh.le QAa;exact fun _=>rfl;exact fun _=>Bh rfl;intro v1;exact QR;omega;exact J;intro A1 c1;refine ⟨Le.refl _,QN,?_⟩)|(apply Ap (enc:=Ox) (n:=0+s.hc.n) (xs:=[]++x.hc) (ys:=x.ac);(iterate 7 exact J);exact ha.le QAa;exact fun _=>rfl;exact fun _=>Bh rfl;intro v1;exact QR;omega;exact J;intro A2 c2;refine ⟨Le.refl _,QN,?_⟩)))|fail)
 all_goals (try (exfalso;omega))
 rw [List.nil_append,Nat.zero_add,← hcs]
 refine El (enc:=Ox) (e:=128) (sz:=2) (n:=s.hc.n+s.ac.n) (xs:=cs) (fun _=>rfl) hcl QK ?_
 intro A7 c7 h7 hle7 e7 hnc7 hs7
 cases e7
 rw [hcf]
 refine Ai (X:=Nat) (fun k=>k≤s.hc.n+s.ac.n∧0≤((cs.take k).foldl (Js p) (0,false)).1∧((cs.take k).foldl (Js p) (0,false)).1≤2) (fun k=>s.hc.n+s.ac.n-k)
  (fun k=>[(9,.int .i64 k),(8,.slice A2 (s.hc.n+s.ac.n) c2),(6,.int .i64 ((cs.take k).foldl (Js p) (0,false)).1),(7,.bool ((cs.take k).foldl (Js p) (0,false)).2),(1,.int .i64 p)])
  (fun _=>[]) (fun _=>h7) 0 ⟨by omega,Uu p (cs.take 0) (0,false) ⟨by decide,by decide⟩⟩ QS QT rfl ?_
 rintro k ⟨hk,hb⟩ ih
 by_cases hkn:k<s.hc.n+s.ac.n
 · have a1:=hs7.addrD hkn
   have cc:Ab h7 ((addrD A2).add (k * Kga.size)) (Ox (cs.getD k Dg)):=hs7.cellsD Dg hkn
   have et:=Cb Dg hcl hkn
   generalize cs.getD k Dg=q at *
   have hsn:(cs.take (k+1)).foldl (Js p) (0,false)=Js p ((cs.take k).foldl (Js p) (0,false)) q:=by rw [et,List.foldl_append];rfl
   have hb2:=Uu p (cs.take (k+1)) (0,false) ⟨by decide,by decide⟩
   have h3:=ih (k+1) ⟨by omega,hb2⟩ QAd
   rw [hsn] at h3
   clear ih hb2 hsn et
   generalize (cs.take k).foldl (Js p) (0,false)=z at *
   obtain ⟨z1,z2⟩:=z
   obtain ⟨qp,qr⟩:=q
   dsimp only at hb h3 cc
   unfold Js at h3
   by_cases hq:qp=p
   · rw [if_pos hq] at h3
     cases qr
     · simp only [Bool.false_eq_true,if_false] at h3
       repeat' (first|refine QC ?_|(apply GOl_min;(iterate 3 exact J);intro wn hwn)|refine QD ?_|(apply Af;exact J;exact J;(first|exact QAc|exact QAo|exact QAb);exact QA)|(refine QH ?_ ?_<;>intro hc<;>try omega)|refine QJ ?_|(refine QI ?_ ?_<;>intro hc<;>try omega)|fail)
       all_goals first
        | (exfalso;omega)
        | (exfalso;simp at hc;done)
        | (rw [hwn];refine Aj QS QT (h3))
     · rw [if_pos rfl] at h3
       dsimp only at h3
       repeat' (first|refine QF ?_|(apply Af;exact J;exact J;(first|exact QAc|exact QAo|exact QAb);exact QA)|(refine QH ?_ ?_<;>intro hc<;>try omega)|refine QJ ?_|(refine QI ?_ ?_<;>intro hc<;>try omega)|fail)
       all_goals first
        | (exfalso;omega)
        | (exfalso;simp at hc;done)
        | (refine Aj QS QT (h3))
   · rw [if_neg hq] at h3
     dsimp only at h3
     repeat' (first|refine QF ?_|(apply Af;exact J;exact J;(first|exact QAc|exact QAo);exact QA)|(refine QH ?_ ?_<;>intro hc<;>try omega)|refine QJ ?_|(refine QI ?_ ?_<;>intro hc<;>try omega)|fail)
     all_goals first
      | (exfalso;omega)
      | (exfalso;simp at hc;done)
      | (refine Aj QS QT (h3))
 · rw [List.take_of_length_le QAd]
   clear ih
   repeat' (first|refine QF ?_|(refine QH ?_ ?_<;>intro hc<;>try omega)|fail)
   all_goals first
    | (exfalso;omega)
    | (exact Cs rfl rfl rfl rfl rfl)
end Go.Hw
namespace Go.Hw
open Go
attribute [local irreducible] GO GOl GDp Val Fn Res Ab Du Blk Bd Cd Bf Has Yl Ik Bn Lt Kk Ew Hj Cn Oh Ff Hv Ue
open Go.Proofs.Tryz (prog)
structure Mea (x:Ce) (i k:Nat) (o:List (Int×Int)):Prop where
 sorted:o.Pairwise fun a b=>a.1<b.1
 mem:∀ m:Int×Int,m∈o↔(m.1∈x.hs.take i∧m.2=x.g.h)∨(m.1∈x.as.take k∧m.2=x.g.a)
 hs:∀ m∈o,∀ p∈x.hs.drop i,m.1<p
 asd:∀ m∈o,∀ p∈x.as.drop k,m.1<p
 len:o.length=i+k
theorem Mea.zero (x:Ce):Mea x 0 0 []:=⟨.nil,fun m=>by simp,fun m hm=>absurd hm QAn,fun m hm=>absurd hm QAn,rfl⟩
theorem We {l:List Int}(h:l.Pairwise (· < ·)){i:Nat}(hi:i<l.length):∀ p∈l.drop (i+1),l[i]<p:=fun p hp=>by
 rw [← List.take_append_drop i l,List.drop_eq_getElem_cons hi,List.pairwise_append,List.pairwise_cons] at h
 exact h.2.1.1 p hp
theorem Mea.stepH {x:Ce}{i k:Nat}{o:List (Int×Int)}(h:Mea x i k o)(hinc:x.hs.Pairwise (· < ·))(hi:i<x.hs.length)(hk:∀ p∈x.as.drop k,x.hs[i]<p):Mea x (i+1) k (o++[(x.hs[i],x.g.h)]):=by
 have hin:x.hs[i]∈x.hs.drop i:=by rw [List.drop_eq_getElem_cons hi];exact List.mem_cons_self
 refine ⟨List.pairwise_append.2 ⟨h.sorted,by simp,fun a ha b hb => ?_⟩,fun m => ?_,fun m hm p hp => ?_,fun m hm p hp => ?_,by rw [List.length_append,h.len,List.length_singleton];omega⟩
 · rw [List.mem_singleton] at hb;subst hb
   exact h.hs a ha _ hin
 · rw [List.mem_append,List.mem_singleton,h.mem m,← List.take_append_getElem hi,List.mem_append,List.mem_singleton]
   obtain ⟨m1,m2⟩:=m
   simp only [Prod.mk.injEq]
   constructor
   · rintro ((⟨q,e⟩|q)|⟨e1,e2⟩)
     · exact .inl ⟨.inl q,e⟩
     · exact .inr q
     · exact .inl ⟨.inr e1,e2⟩
   · rintro (⟨q|q,e⟩|q)
     · exact .inl (.inl ⟨q,e⟩)
     · exact .inr ⟨q,e⟩
     · exact .inl (.inr q)
 · rcases List.mem_append.1 hm with w|w
   · exact h.hs m w p (by rw [List.drop_eq_getElem_cons hi];exact List.mem_cons_of_mem _ hp)
   · rw [List.mem_singleton] at w;subst w
     exact We hinc hi p hp
 · rcases List.mem_append.1 hm with w|w
   · exact h.asd m w p hp
   · rw [List.mem_singleton] at w;subst w
     exact hk p hp
theorem Mea.stepA {x:Ce}{i k:Nat}{o:List (Int×Int)}(h:Mea x i k o)(hinc:x.as.Pairwise (· < ·))(hk:k<x.as.length)(hi:∀ p∈x.hs.drop i,x.as[k]<p):Mea x i (k+1) (o++[(x.as[k],x.g.a)]):=by
 have hin:x.as[k]∈x.as.drop k:=by rw [List.drop_eq_getElem_cons hk];exact List.mem_cons_self
 refine ⟨List.pairwise_append.2 ⟨h.sorted,by simp,fun a ha b hb => ?_⟩,fun m => ?_,fun m hm p hp => ?_,fun m hm p hp => ?_,by rw [List.length_append,h.len,List.length_singleton];omega⟩
 · rw [List.mem_singleton] at hb;subst hb
   exact h.asd a ha _ hin
 · rw [List.mem_append,List.mem_singleton,h.mem m,← List.take_append_getElem hk,List.mem_append,List.mem_singleton]
   obtain ⟨m1,m2⟩:=m
   simp only [Prod.mk.injEq]
   constructor
   · rintro ((q|⟨q,e⟩)|⟨e1,e2⟩)
     · exact .inl q
     · exact .inr ⟨.inl q,e⟩
     · exact .inr ⟨.inr e1,e2⟩
   · rintro (q|⟨q|q,e⟩)
     · exact .inl (.inl q)
     · exact .inl (.inr ⟨q,e⟩)
     · exact .inr ⟨q,e⟩
 · rcases List.mem_append.1 hm with w|w
   · exact h.hs m w p hp
   · rw [List.mem_singleton] at w;subst w
     exact hi p hp
 · rcases List.mem_append.1 hm with w|w
   · exact h.asd m w p (by rw [List.drop_eq_getElem_cons hk];exact List.mem_cons_of_mem _ hp)
   · rw [List.mem_singleton] at w;subst w
     exact We hinc hk p hp
theorem Mea.done {x:Ce}{i k:Nat}{o:List (Int×Int)}(h:Mea x i k o)(hi:x.hs.length≤i)(hk:x.as.length≤k):Mi x o:=⟨h.sorted,fun m=>by rw [h.mem m,List.take_of_length_le hi,List.take_of_length_le hk]⟩
theorem dropped {l:List Int}{v:Int}(hinc:l.Pairwise (· < ·)){i:Nat}(h:i<l.length→v<l.getD i 0):∀ p∈l.drop i,v<p:=fun p hp=>by
 by_cases hi:i<l.length
 · have h1:=h hi
   rw [List.getD_eq_getElem?_getD,List.getElem?_eq_getElem hi,Option.getD_some] at h1
   rw [List.drop_eq_getElem_cons hi] at hp
   rcases List.mem_cons.1 hp with e|e
   · rw [e];exact h1
   · have:=We hinc hi p e
     omega
 · rw [List.drop_of_length_le QAd] at hp
   cases hp
theorem Bka {l:List Int}{i:Nat}(hi:i<l.length):l[i]=l.getD i 0:=by simp [List.getD,List.getElem?_eq_getElem hi]
theorem Kva (h:Ro)(s:Fsh)(x:Ce)(hx:Kj h s x)(hok:Dv x):Res prog 177 #[Kq s x] h (fun u h'=>∃ A1 c1 A2 c2,u=.tuple #[.slice A1 (Kk x).length c1,.slice A2 (Kk x).length c2]∧Ar Cu 1 h' A1 (Kk x).length ((Kk x).map (·.1))∧Ar Cu 1 h' A2 (Kk x).length ((Kk x).map (·.2))):=by
 refine QXR Proofs.Tryz.func177 fun w0 X0=>?_
 have hn1:=hx.hs.len
 have hn2:=hx.as.len
 obtain ⟨⟨l1,_,i1⟩,⟨l2,_,i2⟩⟩:Lw x.hs∧Lw x.as:=⟨hok.2.2.2.2.2.1,hok.2.2.2.2.2.2.1⟩
 have hdis:∀ p∈x.hs,p ∉ x.as:=hok.2.2.2.2.2.2.2.2.2
 have hh:=hx.hs
 have ha:=hx.as
 repeat' (first|refine QF ?_|(refine QB ?_;intro b)|(refine QG ?_;first|(refine QAj ?_;intro b8))|fail)
 rename_i b4
 generalize b8=b5
 generalize b=b1
 refine Ai (X:=Nat×Nat×List (Int×Int)×Nat×Option Addr×Nat×Option Addr×Nat×Ro) (fun y=>y.1≤s.hs.n∧y.2.1≤s.as.n∧Mea x y.1 y.2.1 y.2.2.1∧y.2.2.2.1=y.1+y.2.1∧Le h y.2.2.2.2.2.2.2.2) (fun y=>s.hs.n+s.as.n-(y.1+y.2.1))
  (fun y=>[(6,.int .i64 y.1),(7,.int .i64 y.2.1),(4,.slice y.2.2.2.2.1 y.2.2.2.1 y.2.2.2.2.2.1),(5,.slice y.2.2.2.2.2.2.1 y.2.2.2.1 y.2.2.2.2.2.2.2.1),(1,Kr b1)])
  (fun y=>[Bd 3 1 (.slice y.2.2.2.2.1 y.2.2.2.1 y.2.2.2.2.2.1) y.2.2.2.1 ((y.2.2.1.map (·.1)).flatMap Cu),Bd 3 1 (.slice y.2.2.2.2.2.2.1 y.2.2.2.1 y.2.2.2.2.2.2.2.1) y.2.2.2.1 ((y.2.2.1.map (·.2)).flatMap Cu),Blk b1 47 (Mn s x)]) (fun y=>y.2.2.2.2.2.2.2.2) (0,0,[],0,some ⟨b4,0,none⟩,0,some ⟨b5,0,none⟩,0,h) ⟨by dsimp only;omega,by dsimp only;omega,Mea.zero x,rfl,Le.refl _⟩ QS QT rfl ?_
 rintro ⟨i,k,o,m,A1,c1,A2,c2,h1⟩ ⟨hi,hk,hP,hm,hle⟩ ih
 dsimp only at hi hk hP hm hle ih ⊢
 have hol:=hP.len
 by_cases hdone:i<s.hs.n∨k<s.as.n
 · by_cases htake:k=s.as.n∨(i<s.hs.n∧x.hs.getD i 0<x.as.getD k 0)
   · have hin:i<s.hs.n:=by omega
     have a1:=hh.addrD hin
     have d1:Ab h1 ((addrD s.hs.A).add (i * ty3.size)) (Cu (x.hs.getD i 0)):=(hh.cellsD 0 hin).le hle
     have hdr:∀ p∈x.as.drop k,x.hs.getD i 0<p:=dropped i2 fun q=>htake.elim (fun w=>absurd q QAd) (fun w=>w.2)
     have hnew:=hP.stepH i1 QAd (by rw [Bka];exact hdr)
     rw [Bka] at hnew
     by_cases hkn:k<s.as.n
     · have hlt:x.hs.getD i 0<x.as.getD k 0:=by omega
       have a2:=ha.addrD hkn
       have d2:Ab h1 ((addrD s.as.A).add (k * ty3.size)) (Cu (x.as.getD k 0)):=(ha.cellsD 0 hkn).le hle
       clear hdone htake
       generalize x.hs.getD i 0=p at *
       generalize x.as.getD k 0=r at *
       repeat' (first|refine QF ?_|(apply Af;exact J;exact J;(first|exact QBv|exact QA6);exact QA)|(refine QG ?_;first|(refine QAq ?_;intro b6 h6 hle6 hs6)|(refine QD9 ?_;intro b7 h7 hle7 hs7)|(refine QDj ?_;intro A5 c5)|(refine QDg ?_;intro A6 c6))|(apply Ad (n:=6) [0,1,2,3,4,5,6,7,8,9,10,11,12,13,14,15,16,17,18,19,20,21,22,23,24] [(0,0),(1,0),(2,0),(3,0),(4,0),(5,0),(6,0),(7,0),(8,0),(9,0),(10,0),(11,0),(12,0),(13,0),(14,0),(15,0),(16,0),(17,0),(18,0),(19,0),(20,0),(21,0),(22,0),(23,0),(24,0)];kernel_rfl)|(apply Bk;exact J;kernel_rfl;exact J;exact J;(first|exact QBv|exact QA6|exact QBw|exact QCi);exact QA)|(apply Bq;(iterate 5 exact J);all_goals (intro hc;try simp only [hcS,reduceCtorEq] at hc;try omega))|(refine QH ?_ ?_<;>intro hc<;>try omega)|refine QJ ?_|(refine QI ?_ ?_<;>intro hc<;>try omega)|fail)
       all_goals first
        | (exfalso;omega)
        | contradiction
        | (have h3:=ih (i+1,k,o++[(p,x.g.h)],m+1,A5,c5,A6,c6,h7) ⟨by dsimp only;omega,by dsimp only;omega,hnew,by dsimp only;omega,hle.trans (hle6.trans hle7)⟩ QAh
           dsimp only at h3
           rw [List.map_append,List.map_append] at h3
           refine Aj QS QT (h3))
     · clear hdone htake
       generalize x.hs.getD i 0=p at *
       repeat' (first|refine QF ?_|(apply Af;exact J;exact J;(first|exact QBv|exact QA6);exact QA)|(refine QG ?_;first|(refine QAq ?_;intro b6 h6 hle6 hs6)|(refine QD9 ?_;intro b7 h7 hle7 hs7)|(refine QDj ?_;intro A5 c5)|(refine QDg ?_;intro A6 c6))|(apply Ad (n:=6) [0,1,2,3,4,5,6,7,8,9,10,11,12,13,14,15,16,17,18,19,20,21,22,23,24] [(0,0),(1,0),(2,0),(3,0),(4,0),(5,0),(6,0),(7,0),(8,0),(9,0),(10,0),(11,0),(12,0),(13,0),(14,0),(15,0),(16,0),(17,0),(18,0),(19,0),(20,0),(21,0),(22,0),(23,0),(24,0)];kernel_rfl)|(apply Bq;(iterate 5 exact J);all_goals (intro hc;try simp only [hcS,reduceCtorEq] at hc;try omega))|(refine QH ?_ ?_<;>intro hc<;>try omega)|refine QJ ?_|(refine QI ?_ ?_<;>intro hc<;>try omega)|fail)
       all_goals first
        | (exfalso;omega)
        | contradiction
        | (have h3:=ih (i+1,k,o++[(p,x.g.h)],m+1,A5,c5,A6,c6,h7) ⟨by dsimp only;omega,by dsimp only;omega,hnew,by dsimp only;omega,hle.trans (hle6.trans hle7)⟩ QAh
           dsimp only at h3
           rw [List.map_append,List.map_append] at h3
           refine Aj QS QT (h3))
   · have hkn:k<s.as.n:=by omega
     have a2:=ha.addrD hkn
     have d2:Ab h1 ((addrD s.as.A).add (k * ty3.size)) (Cu (x.as.getD k 0)):=(ha.cellsD 0 hkn).le hle
     have hne:i<s.hs.n→x.as.getD k 0<x.hs.getD i 0:=fun q=>by
      have h1:x.hs.getD i 0∈x.hs:=mem7 0 QAd
      have h2:x.as.getD k 0∈x.as:=mem7 0 QAd
      have h3:x.hs.getD i 0≠x.as.getD k 0:=fun e=>hdis _ h1 (e ▸ h2)
      omega
     have hnew:=hP.stepA i2 QAd (by rw [Bka];exact dropped i1 fun q=>hne QAd)
     rw [Bka] at hnew
     by_cases hin:i<s.hs.n
     · have hlt:=hne hin
       have a1:=hh.addrD hin
       have d1:Ab h1 ((addrD s.hs.A).add (i * ty3.size)) (Cu (x.hs.getD i 0)):=(hh.cellsD 0 hin).le hle
       clear hdone htake hne
       generalize x.hs.getD i 0=p at *
       generalize x.as.getD k 0=r at *
       repeat' (first|refine QF ?_|(apply Af;exact J;exact J;(first|exact QBw|exact QCi);exact QA)|(refine QG ?_;first|(refine QEc ?_;intro b6 h6 hle6 hs6)|(refine QEa ?_;intro b7 h7 hle7 hs7)|(refine QDk ?_;intro A5 c5)|(refine QDh ?_;intro A6 c6))|(apply Ad (n:=6) [0,1,2,3,4,5,6,7,8,9,10,11,12,13,14,15,16,17,18,19,20,21,22,23,24] [(0,0),(1,0),(2,0),(3,0),(4,0),(5,0),(6,0),(7,0),(8,0),(9,0),(10,0),(11,0),(12,0),(13,0),(14,0),(15,0),(16,0),(17,0),(18,0),(19,0),(20,0),(21,0),(22,0),(23,0),(24,0)];kernel_rfl)|(apply Bk;exact J;kernel_rfl;exact J;exact J;(first|exact QBv|exact QA6|exact QBw|exact QCi);exact QA)|(apply Bq;(iterate 5 exact J);all_goals (intro hc;try simp only [hcS,reduceCtorEq] at hc;try omega))|(refine QH ?_ ?_<;>intro hc<;>try omega)|refine QJ ?_|(refine QI ?_ ?_<;>intro hc<;>try omega)|fail)
       all_goals first
        | (exfalso;omega)
        | contradiction
        | (have h3:=ih (i,k+1,o++[(r,x.g.a)],m+1,A5,c5,A6,c6,h7) ⟨by dsimp only;omega,by dsimp only;omega,hnew,by dsimp only;omega,hle.trans (hle6.trans hle7)⟩ QAh
           dsimp only at h3
           rw [List.map_append,List.map_append] at h3
           refine Aj QS QT (h3))
     · clear hdone htake hne
       generalize x.as.getD k 0=r at *
       repeat' (first|refine QF ?_|(apply Af;exact J;exact J;(first|exact QBw|exact QCi);exact QA)|(refine QG ?_;first|(refine QEc ?_;intro b6 h6 hle6 hs6)|(refine QEa ?_;intro b7 h7 hle7 hs7)|(refine QDk ?_;intro A5 c5)|(refine QDh ?_;intro A6 c6))|(apply Ad (n:=6) [0,1,2,3,4,5,6,7,8,9,10,11,12,13,14,15,16,17,18,19,20,21,22,23,24] [(0,0),(1,0),(2,0),(3,0),(4,0),(5,0),(6,0),(7,0),(8,0),(9,0),(10,0),(11,0),(12,0),(13,0),(14,0),(15,0),(16,0),(17,0),(18,0),(19,0),(20,0),(21,0),(22,0),(23,0),(24,0)];kernel_rfl)|(apply Bq;(iterate 5 exact J);all_goals (intro hc;try simp only [hcS,reduceCtorEq] at hc;try omega))|(refine QH ?_ ?_<;>intro hc<;>try omega)|refine QJ ?_|(refine QI ?_ ?_<;>intro hc<;>try omega)|fail)
       all_goals first
        | (exfalso;omega)
        | contradiction
        | (have h3:=ih (i,k+1,o++[(r,x.g.a)],m+1,A5,c5,A6,c6,h7) ⟨by dsimp only;omega,by dsimp only;omega,hnew,by dsimp only;omega,hle.trans (hle6.trans hle7)⟩ QAh
           dsimp only at h3
           rw [List.map_append,List.map_append] at h3
           refine Aj QS QT (h3))
 · have him:=hP.done QAd QAd
   have hye:=Gia him
   rw [← hye]
   clear ih
   refine El (enc:=Cu) (e:=3) (sz:=1) (n:=m) (xs:=o.map (·.1)) (fun _=>rfl) QFi QK ?_
   intro A7 c7 h7 hle7 e7 hnc7 hs7
   cases e7
   refine El (enc:=Cu) (e:=3) (sz:=1) (n:=m) (xs:=o.map (·.2)) (fun _=>rfl) QFi QK ?_
   intro A8 c8 h8 hle8 e8 hnc8 hs8
   cases e8
   have hml:m=o.length:=by omega
   subst hml
   repeat' (first|refine QF ?_|(refine QH ?_ ?_<;>intro hc<;>try omega)|refine QJ ?_|(refine QI ?_ ?_<;>intro hc<;>try omega)|fail)
   all_goals first
    | (exfalso;omega)
    | (exact Cs rfl rfl rfl rfl ⟨A1,c1,A2,c2,rfl,hs7.le hle8,hs8⟩)
theorem ins_ok {L:List Fct}{s c:Int}{D:List Az}{x:Az}{n:Nat}(hs:D.Pairwise LtS)(hD:∀ y∈D,Foa L s c y)(hx:Foa L s c x)(hn:n≤D.length)(h1:∀ t,t<n→LtS (D.getD t Ee) x)(h2:n<D.length→¬ LtS (D.getD n Ee) x)(hne:x ∉ D):(D.take n++x::D.drop n).Pairwise LtS:=by
 have hp:=hs
 rw [← List.take_append_drop n D,List.pairwise_append] at hp
 obtain ⟨p1,p2,p3⟩:=hp
 have hlo:∀ y∈D.take n,LtS y x:=fun y hy=>by
  obtain ⟨t,ht,e⟩:=List.getElem_of_mem hy
  rw [List.length_take] at ht
  have:=h1 t QAd
  rw [List.getD_eq_getElem?_getD,List.getElem?_eq_getElem (show t<D.length by omega),Option.getD_some] at this
  rw [← e,List.getElem_take]
  exact this
 have hhi:∀ y∈D.drop n,LtS x y:=fun y hy=>by
  by_cases hnD:n<D.length
  · have h3:=h2 hnD
    rw [List.getD_eq_getElem?_getD,List.getElem?_eq_getElem hnD,Option.getD_some] at h3
    have hm:D[n]∈D:=List.getElem_mem _
    have h4:LtS x D[n]:=by
     rcases LtS.tri (hD _ hm) hx with w|w|w
     · exact absurd w h3
     · exact absurd (w ▸ hm) hne
     · exact w
    rw [List.drop_eq_getElem_cons hnD] at hy p2
    rw [List.pairwise_cons] at p2
    rcases List.mem_cons.1 hy with e|e
    · rw [e];exact h4
    · exact LtS.trans _ _ _ h4 (p2.1 y e)
  · rw [List.drop_of_length_le QAd] at hy;cases hy
 refine List.pairwise_append.2 ⟨p1,List.pairwise_cons.2 ⟨hhi,p2⟩,fun a ha b hb => ?_⟩
 rcases List.mem_cons.1 hb with e|e
 · rw [e];exact hlo a ha
 · exact p3 a ha b e
theorem ins_mem {α:Type}{D:List α}{x y:α}(n:Nat):y∈D.take n++x::D.drop n↔y=x∨y∈D:=by
 conv=>rhs;rw [← List.take_append_drop n D]
 rw [List.mem_append,List.mem_cons,List.mem_append]
 constructor
 · rintro (h|h|h)
   · exact .inr (.inl h)
   · exact .inl h
   · exact .inr (.inr h)
 · rintro (h|h|h)
   · exact .inr (.inl h)
   · exact .inl h
   · exact .inr (.inr h)
theorem L2a {L:List Fct}(h32:Mk L){gs:List Ak}(hn:gs.Nodup){k:Nat}(hk:k<gs.length)(h2:(Bj L gs[k]).kind=2):Bj L gs[k] ∉ Gc L (gs.take k):=fun hm=>by
 obtain ⟨g,hg,e,_⟩:=Ps.1 hm
 obtain ⟨_,_,_,_,e1,g1,_⟩:=Cl h32 h2
 obtain ⟨_,_,_,_,e3,g3,_⟩:=Cl h32 (g:=g) (by rw [e];exact h2)
 have:g=gs[k]:=by rw [← g1,e1,← e,← e3,g3]
 rw [← List.take_append_drop k gs,List.drop_eq_getElem_cons hk,List.nodup_append] at hn
 exact hn.2.2 g hg gs[k] List.mem_cons_self this
theorem Lpa (h:Ro)(A:Option Addr)(n c:Nat)(l:List (Fsh×Fct))(hx:Au h A n l)(hn6:n≤65536)(season comp:Int):Res prog 176 #[.slice A n c,.int .i64 season,.int .i64 comp] h (fun u h'=>∃ A' c' ds,u=.slice A' ds.length c'∧Ar Ey 15 h' A' ds.length ds∧(∀ p∈ds,ScAt h' p)∧Oo (fcs l) season comp (ds.map (·.2))∧ds.length≤n∧ds.length≤c'):=by
 refine QXR Proofs.Tryz.func176 fun w0 X0=>?_
 have h32:=Fa hx
 have hlenL:(fcs l).length=n:=by unfold fcs;rw [List.length_map,hx.row.len]
 have hga:=fun h' (hl:Le h h')=>gamesR_c h' A n c l (hx.le hl) hn6 season comp
 have hsc:=fun h' (hl:Le h h') g=>Aua h' A n c l (hx.le hl) hn6 g
 have hgl:=Wi hx season comp
 have hmem:=fun x=>Tn (l:=l) h32 (s:=season) (c:=comp) (x:=x)
 have hnd:(Gv l season comp).Nodup:=(Wh l season comp).imp fun {a b} hab e=>by subst e;exact LtG.irrefl _ hab
 have hgok:∀ g∈Gv l season comp,g.s=season∧g.c=comp:=fun g hg=>⟨(Kw.1 hg).1,(Kw.1 hg).2.1⟩
 rw [show Oa l=fcs l from rfl] at hsc
 generalize Gv l season comp=gs at *
 generalize hL:fcs l=L at *
 clear hL hx
 repeat' (first|refine QF ?_|(refine QG ?_;first|(refine QB0 ?_;intro b1 h1 hle1 hcs1)|(apply Ag;exact J;exact has229;exact hga _ QAa;rintro w1 h2 hle2 ⟨A3,c3,rfl,hsl⟩))|fail)
 clear hga
 refine Ai (X:=Nat×List (Fsh×Az)×Option Addr×Nat×Ro) (fun x=>x.1≤gs.length∧Le h2 x.2.2.2.2∧(∀ p∈x.2.1,ScAt x.2.2.2.2 p)∧(x.2.1.map (·.2)).Pairwise LtS∧(∀ y,y∈x.2.1.map (·.2)↔y∈Gc L (gs.take x.1))∧x.2.1.length≤x.1∧Ar Ey 15 x.2.2.2.2 x.2.2.1 x.2.1.length x.2.1∧x.2.1.length≤x.2.2.2.1) (fun x=>gs.length-x.1)
  (fun x=>[(9,.int .i64 x.1),(8,.slice A3 gs.length c3),(7,.slice x.2.2.1 x.2.1.length x.2.2.2.1),(0,.slice A n c)])
  (fun x=>[]) (fun x=>x.2.2.2.2) (0,[],some ⟨b1,0,none⟩,0,h2) ⟨by dsimp only;omega,Le.refl _,by simp,by simp,by simp [Gc],by simp,Ar.nil,Nat.le_refl _⟩ QS QT rfl ?_
 rintro ⟨k,out,A4,c4,hh⟩ ⟨hk,hle,hat,hso,hme,hol,hsl4,hoc⟩ ih
 dsimp only at hk hle hat hso hme hol hsl4 hoc ih ⊢
 obtain ⟨m,hm⟩:∃ m,m=out.length:=⟨_,rfl⟩
 rw [← hm] at hol hsl4 hoc ⊢
 by_cases hkn:k<gs.length
 · have a1:=hsl.addrD hkn
   have d1:Ab hh ((addrD A3).add (k * ty24.size)) (Cx (gs.getD k g9)):=(hsl.cellsD g9 hkn).le hle
   have et:=Cb g9 (xs:=gs) rfl hkn
   have egk:gs.getD k g9=gs[k]:=by simp [List.getD,List.getElem?_eq_getElem hkn]
   have hnew:=L2a h32 hnd hkn
   have hgm:=hgok _ (mem7 g9 hkn)
   rw [← egk] at hnew
   generalize gs.getD k g9=g at *
   have e0:=Tr L (gs.take k) g
   rw [← et] at e0
   have hsg:=fun h' (hl:Le h h')=>hsc h' hl g
   have hDx:(Bj L g).kind=2→Foa L season comp (Bj L g):=fun q=>Ra h32 ⟨g,hgm.1,hgm.2,rfl,q⟩
   have hDo:∀ y∈out.map (·.2),Foa L season comp y:=fun y hy=>by
    have:=(hme y).1 hy
    obtain ⟨g',hg',e1,e2⟩:=Ps.1 this
    have:=hgok g' (List.mem_of_mem_take hg')
    exact Ra h32 ⟨g',this.1,this.2,e1,e2⟩
   generalize Bj L g=x at *
   by_cases hk2:x.kind=2
   · rw [if_pos hk2] at e0
     have hnew:=hnew hk2
     have hDx:=hDx hk2
     clear hmem hsc
     repeat' (first|refine QC ?_|(apply Bo;(iterate 3 exact J);apply At (e:=62);exact J;intro b10)|refine QDs ?_|(apply Af;exact J;exact J;(first|exact QAc|(apply Aw;exact J;exact Cy rfl d1 rfl));exact QA)|(refine QG ?_;first|(refine QEz ?_;rintro w2 h3 hle3 ⟨s,rfl,hs1,hs2⟩))|(refine QH ?_ ?_<;>intro hc<;>try omega)|fail)
     all_goals (try (exfalso;omega))
     have hsl5:=hsl4.le hle3
     refine Ai (X:=Nat) (fun j=>j≤m∧∀ t,t<j→LtS ((out.map (·.2)).getD t Ee) x) (fun j=>m-j)
      (fun j=>[(11,.int .i64 j),(9,.int .i64 k),(8,.slice A3 gs.length c3),(7,.slice A4 m c4),(10,Kr b10),(0,.slice A n c)])
      (fun j=>[Blk b10 62 (Ey (s,x))]) (fun j=>h3) 0 ⟨by omega,fun t ht=>absurd ht QAd⟩ QS QT rfl ?_
     rintro j ⟨hj,hI⟩ ih2
     have hgd:(out.map (·.2)).getD j Ee=(out.getD j sc0).2:=by
      rcases Nat.lt_or_ge j out.length with w|w
      · simp [List.getD,List.getElem?_eq_getElem w]
      · simp [List.getD,List.getElem?_eq_none w];rfl
     by_cases hgo:j<m∧LtS (out.getD j sc0).2 x
     · obtain ⟨hjm,hlt⟩:=hgo
       have b1':=hsl5.addrD hjm
       have e1:Ab h3 ((addrD A4).add (j * ty62.size)) (Ey (out.getD j sc0)):=hsl5.cellsD sc0 hjm
       have hbf:=Jua h3 (out.getD j sc0) (s,x)
       rw [decide_eq_true hlt] at hbf
       have h4:=ih2 (j+1) ⟨by omega,fun t ht=>by
        rcases Nat.lt_or_ge t j with w|w
        · exact hI t w
        · have:t=j:=by omega
          subst this;rw [hgd];exact hlt⟩ QAd
       generalize out.getD j sc0=y at *
       clear ih2 ih
       repeat' (first|refine QF ?_|(apply Ad (n:=9) [0,1,2,3,4,5,6,7,8,9,10,11] [(0,0),(1,0),(2,0),(3,0),(4,0),(5,0),(6,0),(7,0),(8,0),(9,0),(10,1),(11,0)];kernel_rfl)|(apply Bk;exact J;kernel_rfl;exact J;exact J;(first|exact QFr|(apply Aw;exact J;apply Cy;exact J;(with_reducible exact e1);exact J));exact QA)|(apply Ao;exact J;kernel_rfl;(iterate 3 exact J);(first|(apply Aa;exact J;exact has230;exact hbf;refine ⟨Le.refl _,QN,?_⟩)))|(apply Bq;(iterate 5 exact J);all_goals (intro hc;try simp only [hcS,reduceCtorEq] at hc;try omega))|(refine QH ?_ ?_<;>intro hc<;>try omega)|fail)
       all_goals first
        | (exfalso;omega)
        | (refine Aj QS QT (h4))
     · have hins:=ins_ok hso hDo hDx (n:=j) QFi hI (fun q=>by rw [hgd];rw [List.length_map] at q;exact fun w=>hgo ⟨by omega,w⟩) (fun q=>hnew ((hme x).1 q))
       rw [← List.map_take,← List.map_drop] at hins
       have hinm:=fun y=>ins_mem (D:=out.map (·.2)) (x:=x) (y:=y) j
       rw [← List.map_take,← List.map_drop] at hinm
       clear ih2
       have hih:=fun A' c' h' (hl:Le h3 h') (hs':Ar Ey 15 h' A' (j+1+(m-j)) (out.take j++[(s,x)]++out.drop j)) (hc':j+1+(m-j)≤c')=>ih (k+1,out.take j++[(s,x)]++out.drop j,A',c',h') ⟨by dsimp only;omega,hle.trans (hle3.trans hl),fun q hq=>by
        rw [List.append_assoc,List.mem_append,List.mem_append,List.mem_singleton] at hq
        rcases hq with w|w|w
        · exact (hat q (List.mem_of_mem_take w)).le (hle3.trans hl)
        · subst w;exact ⟨hs1.le hl,hs2⟩
        · exact (hat q (List.mem_of_mem_drop w)).le (hle3.trans hl),by
        dsimp only
        rw [List.append_assoc,List.map_append,List.map_append]
        exact hins,fun y=>by
        dsimp only
        rw [List.append_assoc,List.map_append,List.map_append,e0,List.mem_append (s:=Gc L (gs.take k)),List.mem_singleton,← hme y]
        exact (hinm y).trans or_comm,by dsimp only;simp;omega,by
        have e:(out.take j++[(s,x)]++out.drop j).length=j+1+(m-j):=by simp;omega
        dsimp only
        rw [e];exact hs',by
        have e:(out.take j++[(s,x)]++out.drop j).length=j+1+(m-j):=by simp;omega
        dsimp only
        rw [e];exact hc'⟩ QAh
       have elen:(out.take j++[(s,x)]++out.drop j).length=j+1+(m-j):=by simp;omega
       dsimp only at hih
       rw [elen] at hih
       clear ih
       have hhi:=hsl5.high (hi:=j) (c:=c4) hj hoc
       have hlo:=hsl5.low (lo:=j) (c:=c4) hj hoc
       by_cases hjm:j<m
       case' pos =>
        have b1':=hsl5.addrD hjm
        have e1:Ab h3 ((addrD A4).add (j * ty62.size)) (Ey (out.getD j sc0)):=hsl5.cellsD sc0 hjm
        have hbf:=Jua h3 (out.getD j sc0) (s,x)
        rw [decide_eq_false (fun w=>hgo ⟨hjm,w⟩)] at hbf
       all_goals (repeat' (first|refine QF ?_|(apply Ad (n:=9) [0,1,2,3,4,5,6,7,8,9,10,11] [(0,0),(1,0),(2,0),(3,0),(4,0),(5,0),(6,0),(7,0),(8,0),(9,0),(10,1),(11,0)];kernel_rfl)|(apply Ad (n:=11) [0,1,2,3,4,5,6,7,8,9,10,11,12] [(1,0),(2,0),(3,0),(5,0),(8,0),(9,0),(10,0),(0,2),(10,6),(4,2),(4,6),(6,1),(7,1),(11,1),(12,0),(4,1),(7,1),(11,1),(12,0),(0,1),(4,1),(7,1),(11,1),(12,0)];kernel_rfl)|(apply Bk;exact J;kernel_rfl;exact J;exact J;(first|exact QFr|(apply Aw;exact J;apply Cy;exact J;(with_reducible exact e1);exact J)|(apply Jc (hi:=j) (n:=m) (c:=c4);(iterate 6 exact J);omega;omega)|(apply Ho (lo:=j) (n:=m) (c:=c4);(iterate 6 exact J);omega));exact QA)|(apply Ao;exact J;kernel_rfl;(iterate 3 exact J);(first|(apply Aa;exact J;exact has230;exact hbf;refine ⟨Le.refl _,QN,?_⟩)|(refine QAj ?_;intro b8;refine ⟨Le.refl _,QN,?_⟩)|(refine QBt ?_;intro b5 h5 hle5 hs5;refine ⟨hle5,QN,?_⟩)|(refine QB1 ?_;intro A5 c5;refine ⟨Le.refl _,QN,?_⟩)|(apply Ap (enc:=Ey) (n:=0+j) (m:=1) (xs:=[]++out.take j) (ys:=[(s,x)]);(iterate 7 exact J);exact hs5.le QAa;exact Jj;exact fun x=>Bh rfl;intro v1;exact QR;omega;exact J;intro A6 c6;refine ⟨Le.refl _,QN,?_⟩)|(apply Ap (enc:=Ey) (n:=0+j+1) (m:=m-j) (xs:=[]++out.take j++[(s,x)]) (ys:=out.drop j);(iterate 7 exact J);exact hlo.le QAa;exact Jj;exact fun x=>Bh rfl;intro v1;exact QR;omega;exact J;intro A7 c7;refine ⟨Le.refl _,QN,?_⟩)))|(apply Hi;kernel_rfl;exact J;exact J)|(apply Cq;(iterate 4 exact J);(first|(refine QAj ?_;intro b8;refine ⟨Le.refl _,QN,?_⟩)|(refine QBt ?_;intro b5 h5 hle5 hs5;refine ⟨hle5,QN,?_⟩)|(refine QB1 ?_;intro A5 c5;refine ⟨Le.refl _,QN,?_⟩)))|(apply Bq;(iterate 5 exact J);all_goals (intro hc;try simp only [hcS,reduceCtorEq] at hc;try omega))|(refine QH ?_ ?_<;>intro hc<;>try omega)|(apply Rp;exact J;kernel_rfl;exact J;exact J)))
       all_goals (try (exfalso;omega))
       all_goals
        rw [List.nil_append,Nat.zero_add]
        refine El (enc:=Ey) (e:=62) (sz:=15) (n:=j+1+(m-j)) (xs:=out.take j++[(s,x)]++out.drop j) Jj elen QK ?_
        intro A9 c9 h9 hle9 e9 hnc9 hs9
        cases e9
        have h8:=hih A7 c7 h9 QAa hs9 hnc9
        refine Aj QS QT (h8)
   · rw [if_neg hk2] at e0
     clear hmem hsc
     repeat' (first|refine QFs ?_|(apply Af;exact J;exact J;(first|exact QAc|(apply Aw;exact J;exact Cy rfl d1 rfl));exact QA)|(refine QB ?_;intro b)|(refine QG ?_;first|(refine QEz ?_;rintro w2 h3 hle3 ⟨s,rfl,hs1,hs2⟩))|(refine QH ?_ ?_<;>intro hc<;>try omega)|fail)
     all_goals first
      | (exfalso;omega)
      | (have h4:=ih (k+1,out,A4,c4,h3) ⟨by dsimp only;omega,hle.trans hle3,fun q hq=>(hat q hq).le hle3,hso,fun y=>by dsimp only;rw [e0];exact hme y,by dsimp only;omega,by dsimp only;rw [← hm];exact hsl4.le hle3,by dsimp only;omega⟩ QAh
         dsimp only at h4
         rw [← hm] at h4
         refine Aj QS QT (h4))
 · rw [List.take_of_length_le QAd] at hme
   clear ih hsc
   have hdec:Oo L season comp (out.map (·.2)):=⟨hso,fun y=>(hme y).trans (hmem y)⟩
   have hyl:=hdec.len h32
   rw [List.length_map,hlenL] at hyl
   subst hm
   repeat' (first|refine QF ?_|(refine QH ?_ ?_<;>intro hc<;>try omega)|fail)
   all_goals first
    | (exfalso;omega)
    | (exact Ay rfl rfl rfl ⟨A4,c4,out,rfl,hsl4,hat,hdec,hyl,hoc⟩)
end Go.Hw

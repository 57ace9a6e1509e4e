import Derived.Test.YtlnenhhbalpbpaaGreatDoorGC
import Derived.Test.YtlnenhhbalpbpaaGreatDoorFA
import Derived.Test.YtlnenhhbalpbpaaGreatDoorHB
import Derived.Test.YtlnenhhbalpbpaaGreatDoorHwUs
import Derived.Test.YtlnenhhbalpbpaaGreatDoorMSh
set_option linter.all false
set_option maxRecDepth 100000
set_option maxHeartbeats 4000000
namespace Go.Hw
open Go
attribute [local irreducible] GO GOl GDp Val Fn Res Ab Du Blk Bd Cd Bf Has Yl
open Go.Proofs.Tryz (prog)
structure Au (h:Ro) (A:Option Addr) (n:Nat) (l:List (Fsh×Fct)):Prop where
 row:Ar Aq 82 h A n l
 fat:∀ p∈l,FAt h p.1 p.2∧FSm p.2
 small:n≤1000000
theorem Au.le {h h':Ro}{A:Option Addr}{n:Nat}{l:List (Fsh×Fct)}(a:Au h A n l)(hl:Le h h'):Au h' A n l:=⟨a.row.le hl,fun p hp=>⟨(a.fat p hp).1.le hl,(a.fat p hp).2⟩,a.small⟩
open Classical in
noncomputable def Cv (l:List (Fsh×Fct)):List (Fsh×Fct):=l.filter fun p=>decide (p.2.kind=3∧Bm p.2)
theorem Vc (l:List (Fsh×Fct))(p:Fsh×Fct):Cv (l++[p])=Cv l++Cv [p]:=by unfold Cv;rw [List.filter_append]
def FR (p:Fsh×Fct) (u:List Value) (h:Ro):Prop:=u=[Br p.1 p.2]
def p0:Fsh×Fct:=(Ga,Ef)
def Jna (a b:Ak):Int:=orL [Fb a.s b.s,Fb a.c b.c,Fb a.h b.h,Fb a.a b.a]
theorem order_c (h:Ro)(a gb:Ak):Res prog 197 #[De a,De gb] h (fun u _=>u=.int .i64 (Jna a gb)):=by
 refine QXR Proofs.Tryz.func197 fun w0 X0=>?_
 unfold Jna
 generalize hor:orL [Fb a.s gb.s,Fb a.c gb.c,Fb a.h gb.h,Fb a.a gb.a]=o at *
 repeat' (first|refine QF ?_|(refine QB ?_;intro b)|(apply Ad (n:=1) [0,1,2,3,4,5,6,7,8,9,10,11,12,13,14,15,16,17,18,19,20,21,22] [(0,0),(1,0),(2,0),(3,0),(5,0),(6,0),(7,0),(8,0),(10,0),(11,0),(12,0),(13,0),(15,0),(16,0),(17,0),(18,0),(4,1),(9,1),(14,1),(19,1),(20,1),(21,1),(22,0)];kernel_rfl)|(apply Ao;exact J;kernel_rfl;(iterate 3 exact J);(first|(apply Bb (e:=3) (cs:=[Fb a.s gb.s,Fb a.c gb.c,Fb a.h gb.h,Fb a.a gb.a].map fun i=>.int .i64 i);(iterate 3 exact J);exact List.cons_ne_nil _ _;(iterate 4 exact J);intro b1 h1 hle1 hcs1;refine ⟨hle1,QN,?_⟩)|(apply Aa;exact J;exact has56;(have hv7:=or7_c _ _ 4 4 [Fb a.s gb.s,Fb a.c gb.c,Fb a.h gb.h,Fb a.a gb.a] (Do hcs1) QAd;rw [hor] at hv7;exact hv7);refine ⟨Le.refl _,QN,?_⟩)|(apply Aa;exact J;exact has57;exact Wx _ _ _;refine ⟨Le.refl _,QN,?_⟩)))|(apply Ay;(iterate 3 exact J)))
 all_goals rfl
theorem valid_c (h:Ro)(A:Option Addr)(n c:Nat):Res prog 83 #[.slice A n c] h (fun u h'=>∃ bx,u=.func (.func 128) #[] #[.pointer (some ⟨bx,0,none⟩)]∧Ab h' ⟨bx,0,none⟩ [.slice A n c]):=by
 refine QXR Proofs.Tryz.func83 fun w0 X0=>?_
 repeat' (first|refine QF ?_|(refine QB ?_;intro b)|fail)
 refine Ip QK ?_
 intro h1 hle1 hc1
 (first|(apply Ay;(iterate 3 exact J)))
 exact ⟨b,rfl,hc1⟩
open Classical in
theorem validSeq (h:Ro)(A:Option Addr)(n c:Nat)(l:List (Fsh×Fct))(hx:Au h A n l)(bx:Nat)(hb:Ab h ⟨bx,0,none⟩ [.slice A n c]):Hja prog 128 [.pointer (some ⟨bx,0,none⟩)] FR (Cv l) h:=by
 intro lid I Ix mI mIx hround Es h1 hle h0
 refine QXF Proofs.Tryz.func128 fun w0 X0=>?_
 have hlen:=hx.row.len
 have hn:=hx.small
 have hb1:=hb.le hle
 repeat' (first|refine QF ?_|(apply Af;exact J;exact J;(first|(apply Aw;exact J;exact Cy rfl hb1 rfl));exact QA)|fail)
 refine Rr (X:=Nat×List Asn×Ro) (fun x=>x.1≤n∧Le h x.2.2∧I (Cv (l.take x.1)) x.2.1 x.2.2) (fun x=>n-x.1) (fun x=>[(7,.int .i64 x.1),(6,.int .i64 n),(5,.slice A n c),(0,.func (.yield lid) #[] #[])])
  (fun x=>x.2.1) (fun x=>x.2.2) (0,Es,h1) ⟨by omega,hle,h0⟩ QS rfl rfl ?_
 rintro ⟨k,Es1,hk⟩ ⟨hkn,hlk,hI⟩ ih
 dsimp only at hkn hlk hI ih ⊢
 by_cases hkn2:k<n
 · have a1:=hx.row.addrD hkn2
   have c1:=(hx.row.cellsD p0 hkn2).le hlk
   have et:=Cb p0 (xs:=l) rfl (show k<l.length by omega)
   have hsplit:=Nl p0 (l:=l) rfl (show k<l.length by omega)
   have hfa:=hx.fat _ (mem7 p0 (show k<l.length by omega))
   generalize l.getD k p0=p at *
   have hch:=Ob hk p.1 p.2 (hfa.1.le hlk) hfa.2
   have hyl:(p.2.kind=3∧Bm p.2)→Yl prog lid [Br p.1 p.2] Es1 hk fun v Es' h'=>(v=.bool true∧I (Cv (l.take (k+1))) Es' h')∨(v=.bool false∧Ix (Cv (l.take (k+1))) Es' h'):=fun hv=>by
    have e1:Cv [p]=[p]:=by unfold Cv;simp [hv]
    have e2:Cv (l.take (k+1))=Cv (l.take k)++[p]:=by rw [et,Vc,e1]
    have e3:Cv l=Cv (l.take k)++p::Cv (l.drop (k+1)):=by
     conv=>lhs;rw [hsplit]
     unfold Cv at e1 ⊢
     rw [List.filter_append,show p::l.drop (k+1)=[p]++l.drop (k+1) from rfl,List.filter_append,e1];rfl
    rw [e2]
    exact hround _ _ _ _ _ _ e3 hlk rfl hI
   by_cases hv:p.2.kind=3∧Bm p.2
   · have hv1:=hv.1
     rw [if_pos hv.2] at hch
     repeat' (first|refine QFs ?_|(apply Af;exact J;exact J;(first|exact QAc|exact QAf);exact QA)|(refine QB ?_;intro b)|(refine QG ?_;first|(refine QDo ?_)|(refine Nd (List.perm_append_comm (l₁:=[_])) ?_;apply Sx (Es0:=Es1) (Fs:=[_]);(iterate 3 exact J);exact hyl hv;rintro v E2 h2 hle2 (⟨rfl,hP⟩|⟨rfl,hP⟩);all_goals skip))|(refine QH ?_ ?_<;>intro hc<;>try omega)|refine QJ ?_|(refine QI ?_ ?_<;>intro hc<;>try omega)|fail)
     all_goals first
      | (exfalso;omega)
      | (have h3:=ih (k+1,E2,h2) ⟨by show k+1≤n;omega,hlk.trans hle2,hP⟩ QCc
         refine Pv (List.perm_append_comm (l₁:=E2) (l₂:=[_])) (Pw .here ?_)
         exact Nk QS h3)
      | (refine Pu (rs:=[]) (vs:=[]) (Fs:=E2) rfl rfl trivial (List.sublist_append_left _ _) (.inr ⟨Cv (l.take (k+1)),Cv (l.drop (k+1)),?_,hP⟩)
         unfold Cv;rw [← List.filter_append,List.take_append_drop])
   have hno:Cv (l.take (k+1))=Cv (l.take k):=by
    rw [et,Vc];unfold Cv;simp [hv]
   by_cases hk3:p.2.kind=3
   · rw [if_neg (fun h=>hv ⟨hk3,h⟩)] at hch
     repeat' (first|refine QFs ?_|(apply Af;exact J;exact J;(first|exact QAc|exact QAf);exact QA)|(refine QB ?_;intro b)|(refine QG ?_;first|(refine QDo ?_))|(refine QH ?_ ?_<;>intro hc<;>try omega)|refine QJ ?_|(refine QI ?_ ?_<;>intro hc<;>try omega)|fail)
     all_goals
      have h3:=ih (k+1,Es1,hk) ⟨by show k+1≤n;omega,hlk,by show I (Cv (l.take (k+1))) _ _;rw [hno];exact hI⟩ QCc
      refine Pw .here ?_
      exact Nk QS h3
   · generalize (if Bm p.2 then (0:Int) else 70)=chv at hch
     repeat' (first|refine QFs ?_|(apply Af;exact J;exact J;(first|exact QAc|exact QAf);exact QA)|(refine QB ?_;intro b)|(refine QH ?_ ?_<;>intro hc<;>try omega)|refine QJ ?_|(refine QI ?_ ?_<;>intro hc<;>try omega)|fail)
     all_goals
      have h3:=ih (k+1,Es1,hk) ⟨by show k+1≤n;omega,hlk,by show I (Cv (l.take (k+1))) _ _;rw [hno];exact hI⟩ QCc
      refine Pw .here ?_
      exact Nk QS h3
 · rw [List.take_of_length_le QAd] at hI
   repeat' (first|refine QF ?_|(refine QH ?_ ?_<;>intro hc<;>try omega)|fail)
   exact Fh (rs:=[]) (vs:=[]) rfl rfl trivial (.inl hI)
end Go.Hw
namespace Go.Hw
open Go
attribute [local irreducible] GO GOl GDp Val Fn Res Ab Du Blk Bd Cd Bf Has Yl
open Go.Proofs.Tryz (prog)
theorem KG:Uk prog 24 De :=
 Uk.struct ts_ok rfl rfl Cx (fun x y e=>by
  cases x;cases y;simp only [Cx,List.cons.injEq,Value.int.injEq,true_and,and_true] at e;obtain ⟨rfl,rfl,rfl,rfl⟩:=e;rfl) (fun x=>rfl) Lr QBq (fun x v hv=>by
  simp only [Cx,List.mem_cons,List.not_mem_nil,or_false] at hv
  rcases hv with rfl|rfl|rfl|rfl <;> exact ⟨_,_,rfl⟩)
theorem sameSh_c (h:Ro)(s:Fsh)(x:Ce)(hx:Kj h s x)(hxs:Tu x)(t:Fsh)(y:Ce)(hy:Kj h t y)(hys:Tu y):Val prog 85 #[Kq s x,Kq t y] h (.bool (decide (Hh x y))):=by
 refine QXV Proofs.Tryz.func85 fun w0 X0=>?_
 have n1:=hx.hs.len;have n2:=hx.as.len;have n3:=hx.hc.len;have n4:=hx.ac.len
 have m1:=hy.hs.len;have m2:=hy.as.len;have m3:=hy.hc.len;have m4:=hy.ac.len
 obtain ⟨q1,q2,q3,q4⟩:=hxs
 obtain ⟨r1,r2,r3,r4⟩:=hys
 repeat' (first|refine QF ?_|(apply Af;exact J;exact J;(first|exact QA0);exact QA)|(refine QB ?_;intro b)|(refine QG ?_;first|(apply Aa;exact J;exact has129;first|exact Ny _ _ _ _ x.hs (hx.hs.le QAa) QAd _ _ _ y.hs (hy.hs.le QAa) QAd|exact Ny _ _ _ _ x.as (hx.as.le QAa) QAd _ _ _ y.as (hy.as.le QAa) QAd)|(apply Aa;exact J;exact has130;first|exact Us _ _ _ _ x.hc (hx.hc.le QAa) QAd _ _ _ y.hc (hy.hc.le QAa) QAd|exact Us _ _ _ _ x.ac (hx.ac.le QAa) QAd _ _ _ y.ac (hy.ac.le QAa) QAd))|refine QJ ?_|(refine QI ?_ ?_<;>intro hc<;>try omega)|fail)
 all_goals (first|(apply Ac;(iterate 3 exact J)))
 all_goals (clear hx hy;refine Bg ?_)
 all_goals (rw [Og];grind)
abbrev Pr:=(Fsh×Fct)×(Fsh×Fct)
def prC (p:Pr):List Value:=Df p.1.1 p.1.2++Df p.2.1 p.2.2
def prV (p:Pr):Value:=.agg (prC p).toArray
def pr0:Pr:=(p0,p0)
def Tc (h:Ro) (x:Fsh×Fct):Prop:=FAt h x.1 x.2∧FSm x.2∧Bm x.2∧x.2.kind=3
def Fpa (h:Ro) (p:Pr):Prop:=(p.1.2.kind=0∨Tc h p.1)∧(p.2.2.kind=0∨Tc h p.2)
theorem Tc.le {h h':Ro}{x:Fsh×Fct}(a:Tc h x)(hl:Le h h'):Tc h' x:=⟨a.1.le hl,a.2⟩
theorem Fpa.le {h h':Ro}{p:Pr}(a:Fpa h p)(hl:Le h h'):Fpa h' p:=⟨a.1.imp id (·.le hl),a.2.imp id (·.le hl)⟩
theorem Fpa.zero (h:Ro):Fpa h pr0:=⟨.inl rfl,.inl rfl⟩
def Gb (p:Pr) (x:Fsh×Fct):Pr :=
 if x.2.sh.ref=0 then (if p.1.2.kind=0∨Gp p.1.2 x.2<0 then (x,p.2) else p) else (if p.2.2.kind=0∨Gp p.2.2 x.2<0 then (p.1,x) else p)
theorem Fpa.take {h:Ro}{p:Pr}{x:Fsh×Fct}(hp:Fpa h p)(hx:Tc h x):Fpa h (Gb p x):=by
 unfold Gb
 split
 · split
   · exact ⟨.inr hx,hp.2⟩
   · exact hp
 · split
   · exact ⟨hp.1,.inr hx⟩
   · exact hp
theorem take_c (h:Ro)(hG:Iv h)(p:Pr)(x:Fsh×Fct)(hp:Fpa h p)(hx:Tc h x):Res prog 84 #[prV p,Br x.1 x.2] h (fun u _=>u=prV (Gb p x)):=by
 refine QXR Proofs.Tryz.func84 fun w0 X0=>?_
 obtain ⟨⟨s,f⟩,⟨t,g⟩⟩:=p
 obtain ⟨z,e⟩:=x
 obtain ⟨hx1,hx2,hx3,hx4⟩:=hx
 dsimp only at hx1 hx2 hx3 hx4
 have hr:=ref_of hx3 hx4
 rcases hr with hr|hr
 · by_cases hk:f.kind=0
   · have et:Gb ((s,f),(t,g)) (z,e)=((z,e),(t,g)):=by unfold Gb;rw [if_pos hr,if_pos (.inl hk)]
     rw [et]
     repeat' (first|refine QFs ?_|(apply Af;exact J;exact J;(first|exact QB2);exact QA)|(refine QB ?_;intro b)|(apply Ad (n:=2) [0,1,2,3,4,5,6,7,8,9,10,11,12] [(0,0),(1,0),(2,0),(3,0),(4,0),(5,0),(6,0),(7,0),(8,0),(9,0),(10,1),(11,0),(12,0)];kernel_rfl)|(apply Bk;exact J;kernel_rfl;exact J;exact J;(first|exact QB2);exact QA)|(apply Bq;(iterate 5 exact J);all_goals (intro hc;try simp only [hcS,reduceCtorEq] at hc;try omega))|(refine QH ?_ ?_<;>intro hc<;>try omega)|(apply Bw;(iterate 3 exact J);exact QM;exact J;exact J)|(apply Rp;exact J;kernel_rfl;exact J;exact J))
     all_goals rfl
   · have hf:Tc h (s,f):=hp.1.resolve_left hk
     obtain ⟨hf1,hf2,hf3,hf4⟩:=hf
     dsimp only at hf1 hf2 hf3 hf4
     by_cases hl:Gp f e<0
     · have et:Gb ((s,f),(t,g)) (z,e)=((z,e),(t,g)):=by unfold Gb;rw [if_pos hr,if_pos (.inr hl)]
       rw [et]
       repeat' (first|refine QFs ?_|(apply Af;exact J;exact J;(first|exact QB2);exact QA)|(refine QB ?_;intro b)|(apply Ad (n:=2) [0,1,2,3,4,5,6,7,8,9,10,11,12] [(0,0),(1,0),(2,0),(3,0),(4,0),(5,0),(6,0),(7,0),(8,0),(9,0),(10,1),(11,0),(12,0)];kernel_rfl)|(apply Bk;exact J;kernel_rfl;exact J;exact J;(first|exact QB2);exact QA)|(apply Ao;exact J;kernel_rfl;(iterate 3 exact J);(first|(refine QBh ?_;rintro vr hr1 hle1 rfl;refine ⟨hle1,QN,?_⟩)))|(apply Bq;(iterate 5 exact J);all_goals (intro hc;try simp only [hcS,reduceCtorEq] at hc;try omega))|(refine QH ?_ ?_<;>intro hc<;>try omega)|(apply Bw;(iterate 3 exact J);exact QM;exact J;exact J)|fail)
       all_goals rfl
     · have et:Gb ((s,f),(t,g)) (z,e)=((s,f),(t,g)):=by unfold Gb;rw [if_pos hr,if_neg (fun h=>h.elim hk hl)]
       rw [et]
       repeat' (first|refine QFs ?_|(refine QB ?_;intro b)|(apply Ad (n:=2) [0,1,2,3,4,5,6,7,8,9,10,11,12] [(0,0),(1,0),(2,0),(3,0),(4,0),(5,0),(6,0),(7,0),(8,0),(9,0),(10,1),(11,0),(12,0)];kernel_rfl)|(apply Bk;exact J;kernel_rfl;exact J;exact J;(first|exact QB2);exact QA)|(apply Ao;exact J;kernel_rfl;(iterate 3 exact J);(first|(refine QBh ?_;rintro vr hr1 hle1 rfl;refine ⟨hle1,QN,?_⟩)))|(apply Bq;(iterate 5 exact J);all_goals (intro hc;try simp only [hcS,reduceCtorEq] at hc;try omega))|(refine QH ?_ ?_<;>intro hc<;>try omega)|(apply Bw;(iterate 3 exact J);exact QM;exact J;exact J)|fail)
       all_goals rfl
 · have hr0:¬ e.sh.ref=0:=by omega
   by_cases hk:g.kind=0
   · have et:Gb ((s,f),(t,g)) (z,e)=((s,f),(z,e)):=by unfold Gb;rw [if_neg hr0,if_pos (.inl hk)]
     rw [et]
     repeat' (first|refine QFs ?_|(apply Af;exact J;exact J;(first|exact QB3);exact QA)|(refine QB ?_;intro b)|(apply Ad (n:=2) [0,1,2,3,4,5,6,7,8,9,10,11,12] [(0,0),(1,0),(2,0),(3,0),(4,0),(5,0),(6,0),(7,0),(8,0),(9,0),(10,1),(11,0),(12,0)];kernel_rfl)|(apply Bk;exact J;kernel_rfl;exact J;exact J;(first|exact QB3);exact QA)|(apply Bq;(iterate 5 exact J);all_goals (intro hc;try simp only [hcS,reduceCtorEq] at hc;try omega))|(refine QH ?_ ?_<;>intro hc<;>try omega)|(apply Bw;(iterate 3 exact J);exact QM;exact J;exact J)|(apply Rp;exact J;kernel_rfl;exact J;exact J))
     all_goals rfl
   · have hf:Tc h (t,g):=hp.2.resolve_left hk
     obtain ⟨hf1,hf2,hf3,hf4⟩:=hf
     dsimp only at hf1 hf2 hf3 hf4
     by_cases hl:Gp g e<0
     · have et:Gb ((s,f),(t,g)) (z,e)=((s,f),(z,e)):=by unfold Gb;rw [if_neg hr0,if_pos (.inr hl)]
       rw [et]
       repeat' (first|refine QFs ?_|(apply Af;exact J;exact J;(first|exact QB3);exact QA)|(refine QB ?_;intro b)|(apply Ad (n:=2) [0,1,2,3,4,5,6,7,8,9,10,11,12] [(0,0),(1,0),(2,0),(3,0),(4,0),(5,0),(6,0),(7,0),(8,0),(9,0),(10,1),(11,0),(12,0)];kernel_rfl)|(apply Bk;exact J;kernel_rfl;exact J;exact J;(first|exact QB3);exact QA)|(apply Ao;exact J;kernel_rfl;(iterate 3 exact J);(first|(refine QBi ?_;rintro vr hr1 hle1 rfl;refine ⟨hle1,QN,?_⟩)))|(apply Bq;(iterate 5 exact J);all_goals (intro hc;try simp only [hcS,reduceCtorEq] at hc;try omega))|(refine QH ?_ ?_<;>intro hc<;>try omega)|(apply Bw;(iterate 3 exact J);exact QM;exact J;exact J)|fail)
       all_goals rfl
     · have et:Gb ((s,f),(t,g)) (z,e)=((s,f),(t,g)):=by unfold Gb;rw [if_neg hr0,if_neg (fun h=>h.elim hk hl)]
       rw [et]
       repeat' (first|refine QFs ?_|(refine QB ?_;intro b)|(apply Ad (n:=2) [0,1,2,3,4,5,6,7,8,9,10,11,12] [(0,0),(1,0),(2,0),(3,0),(4,0),(5,0),(6,0),(7,0),(8,0),(9,0),(10,1),(11,0),(12,0)];kernel_rfl)|(apply Bk;exact J;kernel_rfl;exact J;exact J;(first|exact QB3);exact QA)|(apply Ao;exact J;kernel_rfl;(iterate 3 exact J);(first|(refine QBi ?_;rintro vr hr1 hle1 rfl;refine ⟨hle1,QN,?_⟩)))|(apply Bq;(iterate 5 exact J);all_goals (intro hc;try simp only [hcS,reduceCtorEq] at hc;try omega))|(refine QH ?_ ?_<;>intro hc<;>try omega)|(apply Bw;(iterate 3 exact J);exact QM;exact J;exact J)|fail)
       all_goals rfl
def Dpa (x:Fsh×Fct):Option Fct:=if x.2.kind=0 then none else some x.2
def Jv (s:Fsh) (x:Az):Value:=.agg (.int .i64 x.kind::(Mn s x.sh++[.int .i64 x.day])).toArray
def Ht (p:Pr):Az:=Mo (Dpa p.1) (Dpa p.2)
def Jw (p:Pr):Fsh:=if p.1.2.kind=0 then (if p.2.2.kind=0 then Ga else p.2.1) else if p.2.2.kind=0 then p.1.1 else if Hh p.1.2.sh p.2.2.sh then p.1.1 else Ga
theorem Tu.nil:Tu Fd:=⟨by decide,by decide,by decide,by decide⟩
theorem scoreP_at {h:Ro}{p:Pr}(hp:Fpa h p):Kj h (Jw p) (Ht p).sh∧Tu (Ht p).sh:=by
 unfold Jw Ht Dpa
 by_cases h1:p.1.2.kind=0 <;> by_cases h2:p.2.2.kind=0
 · simp only [h1,h2,if_true];exact ⟨Kj.nil h,Tu.nil⟩
 · simp only [h1,h2,if_true,if_false];have:=hp.2.resolve_left h2;exact ⟨this.1.sh,this.2.1.1⟩
 · simp only [h1,h2,if_true,if_false];have:=hp.1.resolve_left h1;exact ⟨this.1.sh,this.2.1.1⟩
 · simp only [h1,h2,if_false,Mo]
   split
   · have:=hp.1.resolve_left h1;exact ⟨this.1.sh,this.2.1.1⟩
   · exact ⟨Kj.nil h,Tu.nil⟩
theorem score_c (h:Ro)(p:Pr)(hp:Fpa h p):Val prog 43 #[prV p] h (Jv (Jw p) (Ht p)):=by
 refine QXV Proofs.Tryz.func43 fun w0 X0=>?_
 obtain ⟨⟨s,f⟩,⟨t,g⟩⟩:=p
 by_cases h1:f.kind=0 <;> by_cases h2:g.kind=0
 · have e1:Jv (Jw ((s,f),(t,g))) (Ht ((s,f),(t,g)))=Jv Ga Ee:=by unfold Jw Ht Dpa;simp only [h1,h2,if_true];rfl
   rw [e1]
   repeat' (first|refine QFs ?_|(refine QB ?_;intro b)|(apply Ad (n:=1) [0,1,4,5,6,2,3,7] [(0,0),(1,0),(2,0),(3,0),(4,2),(3,5),(5,1),(6,1),(7,1),(4,1),(6,1),(7,1)];kernel_rfl)|(apply Bk;exact J;kernel_rfl;exact J;exact J;(first|exact QCn|exact QBy);exact QA)|(apply Hi;kernel_rfl;exact J;exact J)|(refine QH ?_ ?_<;>intro hc<;>try omega)|refine QJ ?_|(refine QI ?_ ?_<;>intro hc<;>try omega)|(apply Ct;(iterate 3 exact J);exact QM;exact J;exact J)|fail)
   all_goals rfl
 · have e1:Jv (Jw ((s,f),(t,g))) (Ht ((s,f),(t,g)))=Jv t ⟨1,g.sh,g.day⟩:=by unfold Jw Ht Dpa;simp only [h1,h2,if_true,if_false];rfl
   rw [e1]
   repeat' (first|refine QFs ?_|(refine QB ?_;intro b)|(apply Ad (n:=1) [0,1,4,5,6,2,3,7] [(0,0),(1,0),(2,0),(3,0),(4,2),(3,5),(5,1),(6,1),(7,1),(4,1),(6,1),(7,1)];kernel_rfl)|(apply Bk;exact J;kernel_rfl;exact J;exact J;(first|exact QCn|exact QBy);exact QA)|(apply Hi;kernel_rfl;exact J;exact J)|(refine QH ?_ ?_<;>intro hc<;>try omega)|refine QJ ?_|(refine QI ?_ ?_<;>intro hc<;>try omega)|(apply Ct;(iterate 3 exact J);exact QM;exact J;exact J)|fail)
   all_goals rfl
 · have e1:Jv (Jw ((s,f),(t,g))) (Ht ((s,f),(t,g)))=Jv s ⟨1,f.sh,f.day⟩:=by unfold Jw Ht Dpa;simp only [h1,h2,if_true,if_false];rfl
   rw [e1]
   repeat' (first|refine QFs ?_|(refine QB ?_;intro b)|(apply Ad (n:=1) [0,1,4,5,6,2,3,7] [(0,0),(1,0),(2,0),(3,0),(4,2),(3,5),(5,1),(6,1),(7,1),(4,1),(6,1),(7,1)];kernel_rfl)|(apply Bk;exact J;kernel_rfl;exact J;exact J;(first|exact QCn|exact QBy);exact QA)|(apply Hi;kernel_rfl;exact J;exact J)|(refine QH ?_ ?_<;>intro hc<;>try omega)|refine QJ ?_|(refine QI ?_ ?_<;>intro hc<;>try omega)|(apply Ct;(iterate 3 exact J);exact QM;exact J;exact J)|fail)
   all_goals rfl
 · obtain ⟨f1,f2,_⟩:=hp.1.resolve_left h1
   obtain ⟨g1,g2,_⟩:=hp.2.resolve_left h2
   dsimp only at f1 f2 g1 g2
   have hsm:=sameSh_c h s f.sh f1.sh f2.1 t g.sh g1.sh g2.1
   obtain ⟨m,hm⟩:∃ m,m=max f.day g.day:=⟨_,rfl⟩
   by_cases hq:Hh f.sh g.sh
   · have e1:Jv (Jw ((s,f),(t,g))) (Ht ((s,f),(t,g)))=Jv s ⟨2,f.sh,m⟩:=by unfold Jw Ht Dpa;simp only [h1,h2,if_false,Mo,if_pos hq,hm]
     rw [e1]
     rw [decide_eq_true hq] at hsm
     repeat' (first|refine QC ?_|(apply GOl_max;(iterate 3 exact J);intro wn hwn)|refine QDs ?_|(refine QB ?_;intro b)|(refine QG ?_;first|(apply Aa;exact J;exact has85;exact hsm))|(apply Ad (n:=1) [0,1,4,5,6,2,3,7] [(0,0),(1,0),(2,0),(3,0),(4,2),(3,5),(5,1),(6,1),(7,1),(4,1),(6,1),(7,1)];kernel_rfl)|(apply Bk;exact J;kernel_rfl;exact J;exact J;(first|exact QCn|exact QBy);exact QA)|(apply Hi;kernel_rfl;exact J;exact J)|(refine QH ?_ ?_<;>intro hc<;>try omega)|refine QJ ?_|(refine QI ?_ ?_<;>intro hc<;>try omega)|(apply Ct;(iterate 3 exact J);exact QM;exact J;exact J)|fail)
     all_goals
      have ew:wn=m:=by rw [hwn,hm]
      rw [ew];rfl
   · have e1:Jv (Jw ((s,f),(t,g))) (Ht ((s,f),(t,g)))=Jv Ga ⟨3,Fd,m⟩:=by unfold Jw Ht Dpa;simp only [h1,h2,if_false,Mo,if_neg hq,hm]
     rw [e1]
     rw [decide_eq_false hq] at hsm
     repeat' (first|refine QC ?_|(apply GOl_max;(iterate 3 exact J);intro wn hwn)|refine QDs ?_|(refine QB ?_;intro b)|(refine QG ?_;first|(apply Aa;exact J;exact has85;exact hsm))|(apply Ad (n:=1) [0,1,4,5,6,2,3,7] [(0,0),(1,0),(2,0),(3,0),(4,2),(3,5),(5,1),(6,1),(7,1),(4,1),(6,1),(7,1)];kernel_rfl)|(apply Bk;exact J;kernel_rfl;exact J;exact J;(first|exact QCn|exact QBy);exact QA)|(apply Hi;kernel_rfl;exact J;exact J)|(refine QH ?_ ?_<;>intro hc<;>try omega)|refine QJ ?_|(refine QI ?_ ?_<;>intro hc<;>try omega)|(apply Ct;(iterate 3 exact J);exact QM;exact J;exact J)|fail)
     all_goals
      have ew:wn=m:=by rw [hwn,hm]
      rw [ew];rfl
theorem J5a {C:Ctx}{l:Sl}{h:Ro}{ty:TypeId}{pos:String}{aft:Array Edge}{gd:Option (Nat×Bool)}{dst:Option Tmp}{t k e:TypeId}{x y:Operand}{b:Nat}{key:Ak}{m:List (Ak×Pr)}{T E:Ty}{q:Pr}(K:Uk C.P k De)(hT:By t C.ts=some T)(hTd:T.desc=.map k e)(hE:By e C.ts=some E)(hz:E.zero=prV pr0)
  (hx:evl l x=some (.map (some b))) (hy:evl l y=some (De key)) (hq:q=(Cf key m).getD pr0):OV C l [Cd De prV b m] h ⟨dst,.lookup t x y false,ty,pos,aft,gd⟩ (prV q):=by
 have:=Hb (ev:=prV) (h:=h) (ty:=ty) (pos:=pos) (aft:=aft) (gd:=gd) (dst:=dst) (c:=false) (m:=m) (b:=b) K hT hTd hE hx hy rfl
 cases hl:Cf key m with
 | none=>rw [hl] at this hq;rw [hq];rw [show prV ((none:Option Pr).getD pr0)=E.zero from hz.symm];exact this
 | some a=>rw [hl] at this hq;rw [hq];exact this
def putP (m:List (Ak×Pr)) (x:Fsh×Fct):List (Ak×Pr):=Im x.2.sh.g (Gb ((Cf x.2.sh.g m).getD pr0) x) m
def Fu (vs:List (Fsh×Fct)):List (Ak×Pr):=vs.foldl putP []
theorem Jd (vs:List (Fsh×Fct))(x:Fsh×Fct):Fu (vs++[x])=Im x.2.sh.g (Gb ((Cf x.2.sh.g (Fu vs)).getD pr0) x) (Fu vs):=by unfold Fu;rw [List.foldl_append];rfl
noncomputable def Ou (l:List (Fsh×Fct)):List (Ak×Pr):=Fu (Cv l)
theorem Nq {α:Type}{P:List α→Prop}(h0:P [])(h1:∀ l x,P l→P (l++[x]))(l:List α):P l:=by
 rw [← List.reverse_reverse l]
 induction l.reverse with
 | nil=>exact h0
 | cons x r ih=>rw [List.reverse_cons];exact h1 _ _ ih
theorem Dma {h:Ro}{vs:List (Fsh×Fct)}:(∀ x∈vs,Tc h x)→∀ g,Fpa h ((Cf g (Fu vs)).getD pr0):=by
 refine Nq (P:=fun vs=>(∀ x∈vs,Tc h x)→∀ g,Fpa h ((Cf g (Fu vs)).getD pr0)) (fun _ g=>Fpa.zero h) (fun vs x ih hv g => ?_) vs
 rw [Jd,Si]
 have ih:=ih fun y hy=>hv y (by simp [hy])
 split
 · exact (ih _).take (hv x QAn)
 · exact ih g
open Classical in
theorem Pd {h:Ro}{A:Option Addr}{n:Nat}{l:List (Fsh×Fct)}(hx:Au h A n l):∀ x∈Cv l,Tc h x:=fun x hv=>by
 unfold Cv at hv
 rw [List.mem_filter,decide_eq_true_eq] at hv
 have:=hx.fat x hv.1
 exact ⟨this.1,this.2,hv.2.2,hv.2.1⟩
theorem pairs_c (h:Ro)(hG:Iv h)(A:Option Addr)(n c:Nat)(l:List (Fsh×Fct))(hx:Au h A n l):Fn prog 42 #[.slice A n c] [] h fun u Es h'=>∃ bm,u=.map (some bm)∧Es=[Cd De prV bm (Ou l)]:=by
 refine QXF Proofs.Tryz.func42 fun w0 X0=>?_
 repeat' (first|refine QFs ?_|(refine QB ?_;intro b)|(refine QG ?_;first|(apply Eu De prV;intro bm)|(apply Ag;exact J;exact has83;exact valid_c _ A n c;rintro vr hr1 hle1 ⟨bx,rfl,hcb⟩))|fail)
 generalize b=bT
 refine Ck (Es':=[Blk bT 96 [.map (some bm)],Cd De prV bm (Fu [])]) QT ?_
 refine Iw (R:=FR) (xs:=Cv l) (gf:=128) (lb:=[.pointer (some ⟨bx,0,none⟩)]) rfl rfl has128 (validSeq _ A n c l (hx.le hle1) bx hcb) (by rintro x u h2 rfl;rfl) rfl
  (fun pre Es h2=>Es=[Blk bT 96 [.map (some bm)],Cd De prV bm (Fu pre)]) (fun _ _ _ _=>False)
  (fun pre Es h2 h3 hl e=>e) (fun _ _ _ _ _ _ h=>h.elim) rfl ?_ ?_ (fun _ _ _ _ _ _ _ _ h=>h.elim)
 · rintro lid r0 w1 X1 pre x post u Es1 h1 hxe rfl rfl hle hst
   have hgood:Tc h1 x:=(Pd hx x (by rw [hxe];simp)).le (hle1.trans hle)
   have hpr:Fpa h1 ((Cf x.2.sh.g (Fu pre)).getD pr0):=Dma (fun y hy=>(Pd hx y (by rw [hxe];simp [hy])).le (hle1.trans hle)) _
   rw [show (Fu (pre++[x]))=_ from Jd pre x]
   obtain ⟨q,hq⟩:∃ q,q=(Cf x.2.sh.g (Fu pre)).getD pr0:=⟨_,rfl⟩
   rw [← hq] at hpr ⊢
   generalize Fu pre=m at *
   repeat' (first|refine QC ?_|(apply Rv;exact J;exact QK;exact hst)|(refine QB ?_;intro b)|(apply Ad (n:=4) [0,1,2,3,4,5,6,7,8,9,10,11] [(0,0),(1,0),(2,0),(3,0),(4,0),(5,0),(6,0),(7,0),(8,0),(9,0),(10,1),(11,1)];kernel_rfl)|refine QDs ?_|(apply Bk;exact J;kernel_rfl;exact J;exact J;(first|(apply J5a (key:=x.2.sh.g) (b:=bm) (m:=m) KG;(iterate 6 exact J);exact hq));exact QA)|(apply Ao;exact J;kernel_rfl;(iterate 3 exact J);(first|(apply Ag;exact J;exact has84;exact take_c _ (hG.le QAa) q x (hpr.le QAa) (hgood.le QAa);rintro v2 h2 hle2 rfl;refine ⟨hle2,QN,?_⟩)|(apply Dp (ek:=De) (ev:=prV) (b:=bm) (m:=m) (key:=x.2.sh.g) (u:=Gb q x) KG;(iterate 6 exact J);exact QR;refine ⟨Le.refl _,QN,?_⟩)))|fail)
   all_goals
    refine Ck (Es':=[Ii lid { r0 with state:=.busy },Blk bT 96 [.map (some bm)],Cd De prV bm (Im x.2.sh.g (Gb q x) m)]) QT (Cja (r0:=r0) rfl .here ?_)
    rfl
 · rintro D h1 Es1 hle rfl
   repeat' (first|refine QF ?_|fail)
   all_goals
    refine Mca (Sv rfl QK (Rt_S (rs:=[.tmp 2]) (vs:=[.map (some bm)]) (Fs:=[Cd De prV bm (Ou l)]) rfl rfl ⟨rfl,trivial⟩ QAk ⟨bm,rfl,rfl⟩))
noncomputable def prOf (l:List (Fsh×Fct)) (g:Ak):Pr:=(Cf g (Ou l)).getD pr0
theorem prOf_at {h:Ro}{A:Option Addr}{n:Nat}{l:List (Fsh×Fct)}(hx:Au h A n l)(g:Ak):Fpa h (prOf l g):=Dma (Pd hx) g
theorem scoreOf_c (h:Ro)(hG:Iv h)(A:Option Addr)(n c:Nat)(l:List (Fsh×Fct))(hx:Au h A n l)(g:Ak):Res prog 16 #[.slice A n c,De g] h (fun u _=>u=Jv (Jw (prOf l g)) (Ht (prOf l g))):=by
 refine QXR Proofs.Tryz.func16 fun w0 X0=>?_
 have hpr:=prOf_at hx g
 obtain ⟨q,hq⟩:∃ q,q=prOf l g:=⟨_,rfl⟩
 rw [← hq] at hpr ⊢
 repeat' (first|refine QC ?_|(refine QB ?_;intro b)|(apply Ad (n:=1) [0,1,2,3,4,5] [(0,0),(2,0),(1,1),(3,0),(4,1),(5,1)];kernel_rfl)|refine QDs ?_|(apply Bk;exact J;kernel_rfl;exact J;exact J;(first|(apply J5a (key:=g) (b:=bm) (m:=Ou l) KG;(iterate 6 exact J);exact hq));exact QA)|(apply Ao;exact J;kernel_rfl;(iterate 3 exact J);(first|(refine QB4 ?_;rintro va Ea ha hla ⟨bm,rfl,rfl⟩;refine ⟨hla,QN,?_⟩)|(apply Aa;exact J;exact has43;exact score_c _ q (hpr.le QAa);refine ⟨Le.refl _,QN,?_⟩)))|(apply Bw;(iterate 3 exact J);exact QM;exact J;exact J)|fail)
 all_goals rfl
end Go.Hw
namespace Go.Hw
open Go
attribute [local irreducible] GO GOl GDp Val Fn Res Ab Du Blk Bd Cd Bf Has Yl Cra
open Go.Proofs.Tryz (prog)
open Go.Proofs (ltOf)
open Go.Sort (SWO)
def LtG (a b:Ak):Prop:=a.s<b.s∨(a.s=b.s∧(a.c<b.c∨(a.c=b.c∧(a.h<b.h∨(a.h=b.h∧a.a<b.a)))))
instance (a b:Ak):Decidable (LtG a b):=by unfold LtG;infer_instance
theorem cmpG_lt {a b:Ak}:Jna a b<0↔LtG a b:=by
 unfold Jna LtG
 simp only [Uo,show orL []=0 from rfl]
 unfold Fb
 (repeat' split) <;> omega
theorem LtG.trans {a b c:Ak}(h1:LtG a b)(h2:LtG b c):LtG a c:=by unfold LtG at *;omega
theorem LtG.irrefl (a:Ak):¬ LtG a a:=by unfold LtG;omega
theorem LtG.tri (a b:Ak):LtG a b∨a=b∨LtG b a:=by
 rcases a with ⟨a1,a2,a3,a4⟩;rcases b with ⟨b1,b2,b3,b4⟩
 unfold LtG
 simp only [Ak.mk.injEq]
 omega
theorem Gja (a b:Ak):ltOf Jna a b=decide (LtG a b):=by
 unfold ltOf;rw [decide_eq_decide];exact cmpG_lt
theorem swoG:SWO (ltOf Jna) where
 irrefl x:=by rw [Gja];exact decide_eq_false (LtG.irrefl x)
 trans x y z h1 h2:=by rw [Gja,decide_eq_true_eq] at *;exact h1.trans h2
 ntrans x y z h1 h2:=by rw [Gja,decide_eq_false_iff_not] at *;unfold LtG at *;omega
theorem totG (x y:Ak)(h1:ltOf Jna x y=false)(h2:ltOf Jna y x=false):x=y:=by
 rw [Gja,decide_eq_false_iff_not] at *
 rcases LtG.tri x y with h|h|h
 · exact absurd h h1
 · exact h
 · exact absurd h h2
def Qe (l:List Ak):List Ak:=Ot Jna l
theorem Np (l:List Ak):(Qe l).Perm l:=F7a Jna l
theorem C2a (l:List Ak):(Qe l).length=l.length:=Yn Jna l
theorem sortG_mem {l:List Ak}{g:Ak}:g∈Qe l↔g∈l:=(Np l).mem_iff
theorem Asa (l:List Ak):(Qe l).Pairwise fun a b=>¬ LtG b a:=by
 have h:=List.pairwise_mergeSort (le:=fun x y => !(ltOf Jna) y x) (fun a b c h1 h2=>by
  simp only [Bool.not_eq_true',Gja,decide_eq_false_iff_not] at *
  unfold LtG at *;omega) (fun a b=>by
  simp only [Bool.or_eq_true,Bool.not_eq_true',Gja,decide_eq_false_iff_not]
  unfold LtG;omega) l
 refine h.imp fun {a b} q => ?_
 simpa only [Bool.not_eq_true',Gja,decide_eq_false_iff_not] using q
theorem sortG_lt {l:List Ak}(hn:l.Nodup):(Qe l).Pairwise LtG:=by
 have h1:=Asa l
 have h2:(Qe l).Nodup:=(Np l).nodup_iff.2 hn
 refine (List.pairwise_and_iff.2 ⟨h1,h2⟩).imp fun {a b} ⟨q1,q2⟩ => ?_
 rcases LtG.tri a b with h|h|h
 · exact h
 · exact absurd h q2
 · exact absurd h q1
theorem ltG_ext:∀ {a b:List Ak},a.Pairwise LtG→b.Pairwise LtG→(∀ x,x∈a↔x∈b)→a=b
 | [],[],_,_,_=>rfl
 | [],y::b,_,_,h=>absurd ((h y).2 List.mem_cons_self) QAn
 | x::a,[],_,_,h=>absurd ((h x).1 List.mem_cons_self) QAn
 | x::a,y::b,h1,h2,h=>by
   rw [List.pairwise_cons] at h1 h2
   have hxy:x=y:=by
    rcases List.mem_cons.1 ((h x).1 List.mem_cons_self) with e|e
    · exact e
    · rcases List.mem_cons.1 ((h y).2 List.mem_cons_self) with e2|e2
      · exact e2.symm
      · exact absurd ((h2.1 x e).trans (h1.1 y e2)) (LtG.irrefl _)
   subst hxy
   rw [ltG_ext h1.2 h2.2 fun z => ?_]
   have hz:=h z
   constructor
   · intro hm
     rcases List.mem_cons.1 (hz.1 (List.mem_cons_of_mem _ hm)) with e|e
     · subst e;exact absurd (h1.1 z hm) (LtG.irrefl _)
     · exact e
   · intro hm
     rcases List.mem_cons.1 (hz.2 (List.mem_cons_of_mem _ hm)) with e|e
     · subst e;exact absurd (h2.1 z hm) (LtG.irrefl _)
     · exact e
theorem F4a {a b:List Ak}(h:a.Perm b):Qe a=Qe b :=
 List.Perm.eq_of_pairwise (le:=fun a b=>¬ LtG b a) (fun a b _ _ h1 h2=>by
  rcases LtG.tri a b with h|h|h
  · exact absurd h h2
  · exact h
  · exact absurd h h1) (Asa a) (Asa b) (((Np a).trans h).trans (Np b).symm)
theorem F3a (e:TypeId)(v:Value)(xs:List Ak)(n:Nat)(h:Ro)(hn:n≤1000000000)(hx:xs.length=n) :
  Fn prog 240 #[v,.func (.func 197) #[] #[]] [Bd e 4 v n (xs.flatMap Cx)] h fun u Es _=>u=.tuple #[]∧Es=[Bd e 4 v n ((Qe xs).flatMap Cx)] :=
 sortFnK Cx 4 (fun _=>rfl) QAs Jna
  (fun blk off cap d w hc hH hb hs=>Go.Proofs.AnyQ.slices_SortFunc_total Go.Proofs.Tryz.sortGames 4 (fun w=>ts_ok.run_agg (n:=24) rfl w) (fun w=>ts_ok.run_size (n:=24) rfl w) Cx (fun _=>rfl) (fun x u hu=>by
    simp only [Cx,List.mem_cons,List.not_mem_nil,or_false] at hu
    rcases hu with rfl|rfl|rfl|rfl <;> rfl) Jna swoG 197 #[] blk off cap d w (Go.Proofs.enters_of Go.Proofs.Tryz.func197 QBq rfl) hc hH hb hs totG)
  (fun p cap w=>Go.Proofs.AnyF.slices_SortFunc_none Go.Proofs.Tryz.sortGames p cap _ w)
  (fun x y=>order_c _ x y) e v xs n h hn hx
def Gk (ok:Ak→Pr→Bool) (m:List (Ak×Pr)):List Ak:=(m.filter fun q=>ok q.1 q.2).map (·.1)
theorem Lda {ok:Ak→Pr→Bool}{out:List Ak}{r1 r2:List (Ak×Pr)}{q:Ak×Pr}{T:List Ak}(h:(out++Gk ok (r1++q::r2)).Perm T)(ho:ok q.1 q.2=true):((out++[q.1])++Gk ok (r1++r2)).Perm T:=by
 refine List.Perm.trans ?_ h
 unfold Gk
 simp only [List.filter_append,List.filter_cons,ho,if_true,List.map_append,List.map_cons,List.append_assoc,List.singleton_append]
 exact List.Perm.append_left _ List.perm_middle.symm
theorem keysOf_no {ok:Ak→Pr→Bool}{out:List Ak}{r1 r2:List (Ak×Pr)}{q:Ak×Pr}{T:List Ak}(h:(out++Gk ok (r1++q::r2)).Perm T)(ho:ok q.1 q.2=false):(out++Gk ok (r1++r2)).Perm T:=by
 unfold Gk at *
 simpa only [List.filter_append,List.filter_cons,ho,Bool.false_eq_true,if_false,List.map_append] using h
theorem sorted_c (h:Ro)(mb:Nat)(m:List (Ak×Pr))(hn:m.length≤1000000)(okf:Nat)(cs:List Value)(ok:Ak→Pr→Bool)(hh:Has prog okf)(hok:∀ h',Le h h'→∀ q∈m,Val prog okf ([De q.1,prV q.2]++cs).toArray h' (.bool (ok q.1 q.2))) :
  Fn prog 196 #[.map (some mb),.func (.func 197) #[] #[],.func (.func okf) #[] cs.toArray] [Cd De prV mb m] h fun u Es h'=>Es=[]∧∃ A c,u=.slice A (Qe (Gk ok m)).length c∧Ar Cx 4 h' A (Qe (Gk ok m)).length (Qe (Gk ok m)):=by
 refine QXF Proofs.Tryz.func196 fun w0 X0=>?_
 repeat' (first|refine QF ?_|(refine QG ?_;first|(apply Aha (ek:=De) (ev:=prV);(iterate 3 exact J);intro rr;exact QR;intro rr))|fail)
 refine Fg 24 4 ?_
 refine Ai (X:=List Ak×List (Ak×Pr)×Option (Ak×Pr)×Option Addr×Nat×Ro) (fun x=>Le h x.2.2.2.2.2∧(x.1++Gk ok x.2.1).Perm (Gk ok m)∧x.1.length+x.2.1.length≤m.length∧∀ q∈x.2.1,q∈m) (fun x=>x.2.1.length)
  (fun x=>[(10,.pointer (some ⟨rr,0,none⟩)),(6,.slice x.2.2.2.1 x.1.length x.2.2.2.2.1),(1,.func (.func 197) #[] #[]),(2,.func (.func okf) #[] cs.toArray)])
  (fun x=>[Cra De prV mb rr m x.2.1 x.2.2.1,Bd 24 4 (.slice x.2.2.2.1 x.1.length x.2.2.2.2.1) x.1.length (x.1.flatMap Cx)]) (fun x=>x.2.2.2.2.2) ([],m,none,none,0,h) ⟨Le.refl _,.refl _,by simp,fun q hq=>hq⟩ QS QT rfl ?_
 rintro ⟨out,rem,cur,A9,c9,hk⟩ ⟨hlk,hI,hln,hsub⟩ ih
 dsimp only at hlk hI hln hsub ih ⊢
 repeat' (first|refine QFs ?_|(apply Af;exact J;exact J;(first|(apply J6a (ek:=De) (ev:=prV) (b:=mb) (m:=m) (rem:=r1++r2) (p:=q);exact J));exact QA)|(refine QB ?_;intro b)|(refine QG ?_;first|(apply Fca;exact J;intro rem' cur';exact QR;intro hrem;rotate_left;intro q r1 r2 hrem;rotate_left;all_goals skip)|(apply Cr (f:=okf) (fs:=[]) (cs:=cs);exact J;exact J;exact hh;exact hok _ (hlk.trans QAa) q (hsub q (by rw [hrem];simp)))|(apply Be;exact J;exact has240;exact F3a 24 _ out out.length hk QAd rfl;exact QT;rintro vs Ea2 ha2 hla2 ⟨rfl,rfl⟩)|(apply Ah (enc:=Cx) (n:=1) [_];(iterate 3 exact J);exact List.cons_ne_nil _ _;(iterate 4 exact J);exact fun _=>rfl;exact J;exact J;intro b1 h1 hle1 hs1)|(apply Ap (enc:=Cx) (xs:=out);(iterate 7 exact J);exact hs1;exact fun _=>rfl;exact fun _=>Bh rfl;intro v1;exact QR;(have hq9:=congrArg List.length hrem;simp at hq9;omega);exact J;intro A1 c1))|(refine QH ?_ ?_<;>intro hc<;>try omega)|fail)
 · have hf:=hI
   rw [hrem] at hf
   simp only [Gk,List.filter_nil,List.map_nil,List.append_nil] at hf
   have e:=F4a hf
   have el:=C2a out
   rw [show (List.filter (fun q=>ok q.1 q.2) m).map (·.1)=Gk ok m from rfl] at e
   rw [e] at el ⊢
   refine El (enc:=Cx) (e:=24) (sz:=4) (n:=out.length) (xs:=Qe (Gk ok m)) (fun _=>rfl) el QK ?_
   intro A2 c2 h2 hle2 e2 hnc2 hs2
   injection e2 with e21 _ e23
   subst e21;subst e23
   refine Bi rfl rfl rfl (List.nil_sublist _) ⟨rfl,A9,c9,?_,?_⟩
   · rw [el]
   · rw [el];exact hs2
 all_goals
  have hq9:=congrArg List.length hrem
  simp only [List.length_append,List.length_cons] at hq9
  rw [hrem] at hI hsub
  have hsub2:∀ q'∈r1++r2,q'∈m:=fun q' hq'=>hsub q' (by
   rw [List.mem_append] at hq' ⊢
   exact hq'.imp id (List.mem_cons_of_mem _))
 · have h2:=ih (out++[q.1],r1++r2,some q,A1,c1,h1) ⟨hlk.trans hle1,Lda hI QAe,by simp;omega,hsub2⟩ QFh
   dsimp only at h2
   rw [List.length_append] at h2
   refine Aj QS QT (h2)
 · have h2:=ih (out,r1++r2,some q,A9,c9,hk) ⟨hlk,keysOf_no hI QAe,by simp;omega,hsub2⟩ QFh
   refine Aj QS QT (h2)
theorem games1_c (h:Ro)(g:Ak)(p:Pr)(b1 b2:Nat)(season comp:Int)(h1:Ab h ⟨b1,0,none⟩ [.int .i64 season])(h2:Ab h ⟨b2,0,none⟩ [.int .i64 comp]):Val prog 198 #[De g,prV p,.pointer (some ⟨b1,0,none⟩),.pointer (some ⟨b2,0,none⟩)] h (.bool (decide (g.s=season∧g.c=comp))):=by
 refine QXV Proofs.Tryz.func198 fun w0 X0=>?_
 repeat' (first|refine QF ?_|(apply Af;exact J;exact J;(first|exact QAb);exact QA)|(refine QB ?_;intro b)|refine QJ ?_|(refine QI ?_ ?_<;>intro hc<;>try omega)|fail)
 all_goals (first|(apply Ac;(iterate 3 exact J)))
 all_goals (refine Bg ?_;(try simp only [Ib] at *);grind)
theorem Nv {κ α:Type}[DecidableEq κ](x:κ)(a:α):∀ (m:List (κ×α)),(Im x a m).map (·.1)=if x∈m.map (·.1) then m.map (·.1) else m.map (·.1)++[x]
 | []=>by simp [Im]
 | (y,b)::r=>by
   unfold Im
   by_cases h:y=x
   · simp [h]
   · have ih:=Nv x a r
     simp only [h,if_false,List.map_cons,ih]
     by_cases h2:x∈r.map (·.1)
     · simp [h2]
     · rw [if_neg h2,if_neg (by rw [List.mem_cons];rintro (e|e);exact h e.symm;exact h2 e)];rfl
theorem Dla (vs:List (Fsh×Fct)):((Fu vs).map (·.1)).Nodup:=by
 refine Nq (P:=fun vs=>((Fu vs).map (·.1)).Nodup) (by simp [Fu]) (fun vs x ih => ?_) vs
 rw [Jd,Nv]
 split
 · exact ih
 · rename_i h
   rw [List.nodup_append]
   refine ⟨ih,by simp,fun a ha b hb => ?_⟩
   rw [List.mem_singleton] at hb
   subst hb
   exact fun e=>h (e ▸ ha)
theorem Kxa (vs:List (Fsh×Fct)):(Fu vs).length≤vs.length:=by
 refine Nq (P:=fun vs=>(Fu vs).length≤vs.length) (Nat.le_refl _) (fun vs x ih => ?_) vs
 have h:=congrArg List.length (Nv x.2.sh.g (Gb ((Cf x.2.sh.g (Fu vs)).getD pr0) x) (Fu vs))
 rw [Jd,List.length_append,List.length_singleton]
 split at h <;> simp at h <;> omega
theorem Gda {vs:List (Fsh×Fct)}{g:Ak}:g∈(Fu vs).map (·.1)↔∃ x∈vs,x.2.sh.g=g:=by
 refine Nq (P:=fun vs=>g∈(Fu vs).map (·.1)↔∃ x∈vs,x.2.sh.g=g) (by simp [Fu]) (fun vs x ih => ?_) vs
 rw [Jd,Nv]
 split
 · rename_i h
   rw [ih]
   constructor
   · rintro ⟨y,h1,h2⟩;exact ⟨y,by simp [h1],h2⟩
   · rintro ⟨y,h1,h2⟩
     rw [List.mem_append,List.mem_singleton] at h1
     rcases h1 with h1|rfl
     · exact ⟨y,h1,h2⟩
     · rw [h2] at h;exact ih.1 h
 · rw [List.mem_append,ih,List.mem_singleton]
   constructor
   · rintro (⟨y,h1,h2⟩|h1)
     · exact ⟨y,by simp [h1],h2⟩
     · exact ⟨x,by simp,h1.symm⟩
   · rintro ⟨y,h1,h2⟩
     rw [List.mem_append,List.mem_singleton] at h1
     rcases h1 with h1|rfl
     · exact .inl ⟨y,h1,h2⟩
     · exact .inr h2.symm
theorem Yt {h:Ro}{A:Option Addr}{n:Nat}{l:List (Fsh×Fct)}(hx:Au h A n l):(Ou l).length≤1000000:=by
 have h1:=Kxa (Cv l)
 have h2:(Cv l).length≤l.length:=by unfold Cv;exact List.length_filter_le _ _
 have h3:=hx.row.len
 have h4:=hx.small
 unfold Ou;omega
noncomputable def Gv (l:List (Fsh×Fct)) (season comp:Int):List Ak:=Qe (Gk (fun g _=>decide (g.s=season∧g.c=comp)) (Ou l))
theorem games_c (h:Ro)(hG:Iv h)(A:Option Addr)(n c:Nat)(l:List (Fsh×Fct))(hx:Au h A n l)(season comp:Int):Res prog 131 #[.slice A n c,.int .i64 season,.int .i64 comp] h (fun u h'=>∃ A c,u=.slice A (Gv l season comp).length c∧Ar Cx 4 h' A (Gv l season comp).length (Gv l season comp)):=by
 refine QXR Proofs.Tryz.func131 fun w0 X0=>?_
 repeat' (first|refine QF ?_|(refine QB ?_;intro b)|(refine QG ?_;first|(refine QB4 ?_;rintro va Ea ha hla ⟨bm,rfl,rfl⟩)|(refine Bv (e:=3) (cs:=[.int .i64 season]) QK ?_;intro h2 hle2 hc2;refine Bv (e:=3) (cs:=[.int .i64 comp]) QK ?_;intro h3 hle3 hc3;apply Be;exact J;exact has196;exact sorted_c _ bm (Ou l) (Yt hx) 198 [_,_] (fun g _=>decide (g.s=season∧g.c=comp)) has198 (fun h' hl q hq=>games1_c h' q.1 q.2 _ _ season comp ((hc2.le hle3).le hl) (hc3.le hl));exact QT;rintro v4 E4 h4 hla4 ⟨rfl,A4,c4,rfl,hs4⟩))|fail)
 all_goals (first|(apply Ay;(iterate 3 exact J)))
 all_goals exact ⟨_,_,rfl,hs4⟩
end Go.Hw

import Derived.Test.YtlnenhhbalpbpabGreatDoorGC
import Derived.Test.YtlnenhhbalpbpabGreatDoorFA
import Derived.Test.YtlnenhhbalpbpabGreatDoorHB
import Derived.Test.YtlnenhhbalpbpabGreatDoorHwUs
import Derived.Test.YtlnenhhbalpbpabGreatDoorLSh
set_option linter.all false
set_option maxRecDepth 100000
set_option maxHeartbeats 4000000
namespace Go.Hw
open Go
attribute [local irreducible] GO GOl GDp Val Fn Res At Fx Blk By Dk Cl Has Yl
open Go.Proofs (Tryz.prog)
structure Co (h:Ro) (A:Option Addr) (n:Nat) (l:List (Fsh×Fct)):Prop where
 row:Cc Bx 82 h A n l
 fat:∀ p∈l,FAt h p.1 p.2∧FSm p.2
 small:n≤1000000
theorem Co.le {h h':Ro}{A:Option Addr}{n:Nat}{l:List (Fsh×Fct)}(a:Co h A n l)(hl:Le h h'):Co h' A n l:=⟨a.row.le hl,fun p hp=>⟨(a.fat p hp).1.le hl,(a.fat p hp).2⟩,a.small⟩
open Classical in
noncomputable def Do (l:List (Fsh×Fct)):List (Fsh×Fct):=l.filter fun p=>decide (p.2.kind=3∧Cg p.2)
theorem Wh (l:List (Fsh×Fct))(p:Fsh×Fct):Do (l++[p])=Do l++Do [p]:=by unfold Do;rw [List.filter_append]
def FR (p:Fsh×Fct) (u:List Value) (h:Ro):Prop:=u=[Fc p.1 p.2]
def p0:Fsh×Fct:=(Nv,Jp)
def Kda (a b:Bl):Int:=orL [Ey a.s b.s,Ey a.c b.c,Ey a.h b.h,Ey a.a b.a]
theorem order_c (h:Ro)(a gb:Bl):Res Tryz.prog 251 #[Fr a,Fr gb] h (fun u _=>u=.int .i64 (Kda a gb)):=by
 refine Bq (args:=[_,_]) ts_ok Go.Proofs.Tryz.func251 rfl rfl fun w0 X0 => ?_
 unfold Kda
 generalize hor:orL [Ey a.s gb.s,Ey a.c gb.c,Ey a.h gb.h,Ey a.a gb.a]=o at *
 repeat' (first|apply Ac|apply Aa|apply Ab|(apply Ad;(iterate 3 exact J))|(apply Af;(iterate 3 exact J);(first|(apply Ao;exact J;intro b;skip)))|(apply Bf (n:=1) [0,1,2,3,4,5,6,7,8,9,10,11,12,13,14,15,16,17,18,19,20,21,22] [(0,0),(1,0),(2,0),(3,0),(5,0),(6,0),(7,0),(8,0),(10,0),(11,0),(12,0),(13,0),(15,0),(16,0),(17,0),(18,0),(4,1),(9,1),(14,1),(19,1),(20,1),(21,1),(22,0)];kernel_rfl)|(apply Ce;exact J;kernel_rfl;(iterate 3 exact J))|(apply Bj;exact J;kernel_rfl;(iterate 3 exact J);exact QM;exact J;exact J)|(apply Br;exact J;kernel_rfl;(iterate 3 exact J);(first|(apply Bu (e:=3) (cs:=[Ey a.s gb.s,Ey a.c gb.c,Ey a.h gb.h,Ey a.a gb.a].map fun i=>.int .i64 i);(iterate 3 exact J);exact List.cons_ne_nil _ _;(iterate 4 exact J);intro b1 h1 hle1 hcs1;refine ⟨hle1,QN,?_⟩)|(apply Aq;exact J;exact has27;(have hv7:=or7_c _ _ 4 4 [Ey a.s gb.s,Ey a.c gb.c,Ey a.h gb.h,Ey a.a gb.a] (Gv hcs1) (by omega);rw [hor] at hv7;exact hv7);refine ⟨Le.refl _,QN,?_⟩)|(apply Aq;exact J;exact Mca;exact Tu _ _ _;refine ⟨Le.refl _,QN,?_⟩)))|(apply Bm;kernel_rfl;exact J)|(apply Cb;(iterate 3 exact J)))
 all_goals rfl
theorem valid_c (h:Ro)(A:Option Addr)(n c:Nat):Res Tryz.prog 155 #[.slice A n c] h (fun u h'=>∃ bx,u=.func (.func 207) #[] #[.pointer (some ⟨bx,0,none⟩)]∧At h' ⟨bx,0,none⟩ [.slice A n c]):=by
 refine Bq (args:=[_]) ts_ok Go.Proofs.Tryz.func155 rfl rfl fun w0 X0 => ?_
 repeat' (first|apply Ac|apply Aa|apply Ab|(apply Ad;(iterate 3 exact J))|(apply Af;(iterate 3 exact J);(first|(apply Ao;exact J;intro b;skip))))
 refine Gf QK ?_
 intro h1 hle1 hc1
 (first|(apply Cb;(iterate 3 exact J)))
 exact ⟨b,rfl,hc1⟩
open Classical in
theorem validSeq (h:Ro)(A:Option Addr)(n c:Nat)(l:List (Fsh×Fct))(hx:Co h A n l)(bx:Nat)(hb:At h ⟨bx,0,none⟩ [.slice A n c]):Zg Tryz.prog 207 [.pointer (some ⟨bx,0,none⟩)] FR (Do l) h:=by
 intro lid I Ix mI mIx hround Es h1 hle h0
 refine Bo (args:=[_,_]) ts_ok Go.Proofs.Tryz.func207 rfl rfl fun w0 X0 => ?_
 have hlen:=hx.row.len
 have hn:=hx.small
 have hb1:=hb.le hle
 repeat' (first|apply Ac|apply Ak|apply Aa|apply Ab|(apply Ad;(iterate 3 exact J))|(apply Bd;exact J;exact J;(first|(apply Ar;exact J;exact Bh rfl hb1 rfl));exact QA))
 refine Lh (X:=Nat×List Asn×Ro) (fun x=>x.1≤n∧Le h x.2.2∧I (Do (l.take x.1)) x.2.1 x.2.2) (fun x=>n-x.1) (fun x=>[(7,.int .i64 x.1),(6,.int .i64 n),(5,.slice A n c),(0,.func (.yield lid) #[] #[])])
  (fun x=>x.2.1) (fun x=>x.2.2) (0,Es,h1) ⟨by omega,hle,h0⟩ QS rfl rfl ?_
 rintro ⟨k,Es1,hk⟩ ⟨hkn,hlk,hI⟩ ih
 dsimp only at hkn hlk hI ih ⊢
 by_cases hkn2:k<n
 · have a1:=hx.row.addrD hkn2
   have c1:=(hx.row.cellsD p0 hkn2).le hlk
   have et:=Fq p0 (xs:=l) rfl (show k<l.length by omega)
   have hsplit:=Oz p0 (l:=l) rfl (show k<l.length by omega)
   have hfa:=hx.fat _ (mem7 p0 (show k<l.length by omega))
   generalize l.getD k p0=p at *
   have hch:=Na hk p.1 p.2 (hfa.1.le hlk) hfa.2
   have hyl:(p.2.kind=3∧Cg p.2)→Yl Tryz.prog lid [Fc p.1 p.2] Es1 hk fun v Es' h'=>(v=.bool true∧I (Do (l.take (k+1))) Es' h')∨(v=.bool false∧Ix (Do (l.take (k+1))) Es' h'):=fun hv=>by
    have e1:Do [p]=[p]:=by unfold Do;simp [hv]
    have e2:Do (l.take (k+1))=Do (l.take k)++[p]:=by rw [et,Wh,e1]
    have e3:Do l=Do (l.take k)++p::Do (l.drop (k+1)):=by
     conv=>lhs;rw [hsplit]
     unfold Do at e1 ⊢
     rw [List.filter_append,show p::l.drop (k+1)=[p]++l.drop (k+1) from rfl,List.filter_append,e1];rfl
    rw [e2]
    exact hround _ _ _ _ _ _ e3 hlk rfl hI
   by_cases hv:p.2.kind=3∧Cg p.2
   · have hv1:=hv.1
     rw [if_pos hv.2] at hch
     repeat' (first|apply Ac|apply Au|apply Ap|apply Ak|apply Aa|apply Ab|(apply Bg;(iterate 3 exact J);omega;exact J;exact J)|(apply Ad;(iterate 3 exact J))|(apply Ai;exact J;exact Av rfl QM rfl;exact J;exact J)|(apply Bd;exact J;exact J;(first|(apply Be (j:=k);(iterate 5 exact J);exact a1;(with_reducible exact J);omega)|(apply Ar;exact J;exact Bh rfl c1 rfl));exact QA)|(apply Af;(iterate 3 exact J);(first|(apply Ah;(iterate 3 exact J);exact QR;(iterate 3 exact J);skip)|(apply Ag;exact J;intro b;skip)|(apply Aq;exact J;exact Pv;exact hch;skip)|(refine Ho (List.perm_append_comm (l₁:=[_])) ?_;apply Iv (Es0:=Es1) (Fs:=[_]);(iterate 3 exact J);exact hyl hv;rintro v E2 h2 hle2 (⟨rfl,hP⟩|⟨rfl,hP⟩);all_goals skip)))|(apply Aj;exact J;all_goals (intro hc;try simp only [hcS,reduceCtorEq] at hc;try (exfalso;omega)))|(apply Ba;exact J;exact J;all_goals (intro hc;try simp only [hcS,reduceCtorEq] at hc;try (exfalso;omega))))
     all_goals first
      | (exfalso;omega)
      | (have h3:=ih (k+1,E2,h2) ⟨by show k+1≤n;omega,hlk.trans hle2,hP⟩ (by show n-(k+1)<n-k;omega)
         refine Iy (List.perm_append_comm (l₁:=E2) (l₂:=[_])) (Fv .here ?_)
         exact Hg QS h3)
      | (refine Lu (rs:=[]) (vs:=[]) (Fs:=E2) rfl rfl trivial (List.sublist_append_left _ _) (.inr ⟨Do (l.take (k+1)),Do (l.drop (k+1)),?_,hP⟩)
         unfold Do;rw [← List.filter_append,List.take_append_drop])
   have hno:Do (l.take (k+1))=Do (l.take k):=by
    rw [et,Wh];unfold Do;simp [hv]
   by_cases hk3:p.2.kind=3
   · rw [if_neg (fun h=>hv ⟨hk3,h⟩)] at hch
     repeat' (first|apply Ac|apply Au|apply Ap|apply Ak|apply Aa|apply Ab|(apply Aw;exact J;exact J)|(apply Bg;(iterate 3 exact J);omega;exact J;exact J)|(apply Ad;(iterate 3 exact J))|(apply Ai;exact J;exact Av rfl QM rfl;exact J;exact J)|(apply Bd;exact J;exact J;(first|(apply Be (j:=k);(iterate 5 exact J);exact a1;(with_reducible exact J);omega)|(apply Ar;exact J;exact Bh rfl c1 rfl));exact QA)|(apply Af;(iterate 3 exact J);(first|(apply Ah;(iterate 3 exact J);exact QR;(iterate 3 exact J);skip)|(apply Ag;exact J;intro b;skip)|(apply Aq;exact J;exact Pv;exact hch;skip)))|(apply Aj;exact J;all_goals (intro hc;try simp only [hcS,reduceCtorEq] at hc;try (exfalso;omega)))|(apply Ba;exact J;exact J;all_goals (intro hc;try simp only [hcS,reduceCtorEq] at hc;try (exfalso;omega))))
     all_goals
      have h3:=ih (k+1,Es1,hk) ⟨by show k+1≤n;omega,hlk,by show I (Do (l.take (k+1))) _ _;rw [hno];exact hI⟩ (by show n-(k+1)<n-k;omega)
      refine Fv .here ?_
      exact Hg QS h3
   · generalize (if Cg p.2 then (0:Int) else 70)=chv at hch
     repeat' (first|apply Ac|apply Au|apply Ap|apply Ak|apply Aa|apply Ab|(apply Aw;exact J;exact J)|(apply Bg;(iterate 3 exact J);omega;exact J;exact J)|(apply Ad;(iterate 3 exact J))|(apply Ai;exact J;exact Av rfl QM rfl;exact J;exact J)|(apply Bd;exact J;exact J;(first|(apply Be (j:=k);(iterate 5 exact J);exact a1;(with_reducible exact J);omega)|(apply Ar;exact J;exact Bh rfl c1 rfl));exact QA)|(apply Af;(iterate 3 exact J);(first|(apply Ah;(iterate 3 exact J);exact QR;(iterate 3 exact J);skip)|(apply Ag;exact J;intro b;skip)))|(apply Aj;exact J;all_goals (intro hc;try simp only [hcS,reduceCtorEq] at hc;try (exfalso;omega)))|(apply Ba;exact J;exact J;all_goals (intro hc;try simp only [hcS,reduceCtorEq] at hc;try (exfalso;omega))))
     all_goals
      have h3:=ih (k+1,Es1,hk) ⟨by show k+1≤n;omega,hlk,by show I (Do (l.take (k+1))) _ _;rw [hno];exact hI⟩ (by show n-(k+1)<n-k;omega)
      refine Fv .here ?_
      exact Hg QS h3
 · rw [List.take_of_length_le (by omega)] at hI
   repeat' (first|apply Ac|apply Aa|apply Ab|(apply Bn;exact J)|(apply Ad;(iterate 3 exact J))|(apply Aj;exact J;all_goals (intro hc;try simp only [hcS,reduceCtorEq] at hc;try (exfalso;omega))))
   exact Fe (rs:=[]) (vs:=[]) rfl rfl trivial (.inl hI)
end Go.Hw
namespace Go.Hw
open Go
attribute [local irreducible] GO GOl GDp Val Fn Res At Fx Blk By Dk Cl Has Yl
open Go.Proofs (Tryz.prog)
theorem KG:Vn Tryz.prog 38 Fr :=
 Vn.struct ts_ok rfl rfl Km (fun x y e=>by
  cases x;cases y;simp only [Km,List.cons.injEq,Value.int.injEq,true_and,and_true] at e;obtain ⟨rfl,rfl,rfl,rfl⟩:=e;rfl) (fun x=>rfl) Tp (by kernel_rfl) (fun x v hv=>by
  simp only [Km,List.mem_cons,List.not_mem_nil,or_false] at hv
  rcases hv with rfl|rfl|rfl|rfl <;> exact ⟨_,_,rfl⟩)
theorem sameSh_c (h:Ro)(s:Fsh)(x:El)(hx:Vl h s x)(hxs:Iea x)(t:Fsh)(y:El)(hy:Vl h t y)(hys:Iea y):Val Tryz.prog 157 #[Dma s x,Dma t y] h (.bool (decide (Mo x y))):=by
 refine Az (args:=[_,_]) ts_ok Go.Proofs.Tryz.func157 rfl rfl fun w0 X0 => ?_
 have n1:=hx.hs.len;have n2:=hx.asn.len;have n3:=hx.hc.len;have n4:=hx.ac.len
 have m1:=hy.hs.len;have m2:=hy.asn.len;have m3:=hy.hc.len;have m4:=hy.ac.len
 obtain ⟨q1,q2,q3,q4⟩:=hxs
 obtain ⟨r1,r2,r3,r4⟩:=hys
 repeat' (first|apply Ac|apply Aa|apply Ab|(apply Aw;exact J;exact J)|(apply Ad;(iterate 3 exact J))|(apply Ai;exact J;exact Av rfl QM rfl;exact J;exact J)|(apply Bd;exact J;exact J;(first|(apply Ys;exact J;exact J;exact Tp _ _;kernel_rfl;kernel_rfl));exact QA)|(apply Af;(iterate 3 exact J);(first|(apply Ao;exact J;intro b;skip)|(apply Aq;exact J;exact has48;first|exact Mz _ _ _ _ x.hs (hx.hs.le QL) (by omega) _ _ _ y.hs (hy.hs.le QL) (by omega)|exact Mz _ _ _ _ x.asn (hx.asn.le QL) (by omega) _ _ _ y.asn (hy.asn.le QL) (by omega);skip)|(apply Aq;exact J;exact has142;first|exact Vx _ _ _ _ x.hc (hx.hc.le QL) (by omega) _ _ _ y.hc (hy.hc.le QL) (by omega)|exact Vx _ _ _ _ x.ac (hx.ac.le QL) (by omega) _ _ _ y.ac (hy.ac.le QL) (by omega);skip)))|(apply Ba;exact J;exact J;all_goals (intro hc;try simp only [hcS,reduceCtorEq] at hc;try (exfalso;omega))))
 all_goals (first|(apply Bb;(iterate 3 exact J)))
 all_goals (clear hx hy;refine Dg ?_)
 all_goals (rw [M9a];grind)
abbrev Pr:=(Fsh×Fct)×(Fsh×Fct)
def prC (p:Pr):List Value:=Dx p.1.1 p.1.2++Dx p.2.1 p.2.2
def prV (p:Pr):Value:=.agg (prC p).toArray
def pr0:Pr:=(p0,p0)
def Uk (h:Ro) (x:Fsh×Fct):Prop:=FAt h x.1 x.2∧FSm x.2∧Cg x.2∧x.2.kind=3
def F4a (h:Ro) (p:Pr):Prop:=(p.1.2.kind=0∨Uk h p.1)∧(p.2.2.kind=0∨Uk h p.2)
theorem Uk.le {h h':Ro}{x:Fsh×Fct}(a:Uk h x)(hl:Le h h'):Uk h' x:=⟨a.1.le hl,a.2⟩
theorem F4a.le {h h':Ro}{p:Pr}(a:F4a h p)(hl:Le h h'):F4a h' p:=⟨a.1.imp id (·.le hl),a.2.imp id (·.le hl)⟩
theorem F4a.zero (h:Ro):F4a h pr0:=⟨.inl rfl,.inl rfl⟩
def Hd (p:Pr) (x:Fsh×Fct):Pr :=
 if x.2.sh.ref=0 then (if p.1.2.kind=0∨Jv p.1.2 x.2<0 then (x,p.2) else p) else (if p.2.2.kind=0∨Jv p.2.2 x.2<0 then (p.1,x) else p)
theorem F4a.take {h:Ro}{p:Pr}{x:Fsh×Fct}(hp:F4a h p)(hx:Uk h x):F4a h (Hd p x):=by
 unfold Hd
 split
 · split
   · exact ⟨.inr hx,hp.2⟩
   · exact hp
 · split
   · exact ⟨hp.1,.inr hx⟩
   · exact hp
theorem take_c (h:Ro)(hG:Kg h)(p:Pr)(x:Fsh×Fct)(hp:F4a h p)(hx:Uk h x):Res Tryz.prog 156 #[prV p,Fc x.1 x.2] h (fun u _=>u=prV (Hd p x)):=by
 refine Bq (args:=[_,_]) ts_ok Go.Proofs.Tryz.func156 rfl rfl fun w0 X0 => ?_
 obtain ⟨⟨s,f⟩,⟨t,g⟩⟩:=p
 obtain ⟨z,e⟩:=x
 obtain ⟨hx1,hx2,hx3,hx4⟩:=hx
 dsimp only at hx1 hx2 hx3 hx4
 have hr:=ref_of hx3 hx4
 rcases hr with hr|hr
 · by_cases hk:f.kind=0
   · have et:Hd ((s,f),(t,g)) (z,e)=((z,e),(t,g)):=by unfold Hd;rw [if_pos hr,if_pos (.inl hk)]
     rw [et]
     repeat' (first|apply Ac|apply Aa|apply Ab|(apply Ad;(iterate 3 exact J))|(apply Ai;exact J;exact Av rfl QM rfl;exact J;exact J)|(apply Bd;exact J;exact J;(first|(apply Dj (j:=0);(iterate 5 exact J);exact hr;exact (by decide)));exact QA)|(apply Af;(iterate 3 exact J);(first|(apply Ah;(iterate 3 exact J);exact QR;(iterate 3 exact J);skip)|(apply Ao;exact J;intro b;skip)|(apply Ag;exact J;intro b;skip)))|(apply Bf (n:=2) [0,1,2,3,4,5,6,7,8,9,10,11,12] [(0,0),(1,0),(2,0),(3,0),(4,0),(5,0),(6,0),(7,0),(8,0),(9,0),(10,1),(11,0),(12,0)];kernel_rfl)|(apply GP_un;exact J;kernel_rfl;exact J;exact J)|(apply Ce;exact J;kernel_rfl;(iterate 3 exact J))|(apply Bj;exact J;kernel_rfl;(iterate 3 exact J);exact QM;exact J;exact J)|(apply De;exact J;kernel_rfl;exact J;exact J;(first|(apply Dj (j:=0);(iterate 5 exact J);exact hr;exact (by decide)));exact QA)|(apply Bm;kernel_rfl;exact J)|(apply Ig;(iterate 5 exact J);all_goals (intro hc;try simp only [hcS,reduceCtorEq] at hc;try (exfalso;omega)))|(apply Aj;exact J;all_goals (intro hc;try simp only [hcS,reduceCtorEq] at hc;try (exfalso;omega)))|(apply Gy;(iterate 3 exact J);exact QM;exact J;exact J)|(apply K2a;exact J;kernel_rfl;exact J;exact J))
     all_goals rfl
   · have hf:Uk h (s,f):=hp.1.resolve_left hk
     obtain ⟨hf1,hf2,hf3,hf4⟩:=hf
     dsimp only at hf1 hf2 hf3 hf4
     by_cases hl:Jv f e<0
     · have et:Hd ((s,f),(t,g)) (z,e)=((z,e),(t,g)):=by unfold Hd;rw [if_pos hr,if_pos (.inr hl)]
       rw [et]
       repeat' (first|apply Ac|apply Aa|apply Ab|(apply Ad;(iterate 3 exact J))|(apply Ai;exact J;exact Av rfl QM rfl;exact J;exact J)|(apply Bd;exact J;exact J;(first|(apply Dj (j:=0);(iterate 5 exact J);exact hr;exact (by decide)));exact QA)|(apply Af;(iterate 3 exact J);(first|(apply Ah;(iterate 3 exact J);exact QR;(iterate 3 exact J);skip)|(apply Ao;exact J;intro b;skip)|(apply Ag;exact J;intro b;skip)))|(apply Bf (n:=2) [0,1,2,3,4,5,6,7,8,9,10,11,12] [(0,0),(1,0),(2,0),(3,0),(4,0),(5,0),(6,0),(7,0),(8,0),(9,0),(10,1),(11,0),(12,0)];kernel_rfl)|(apply Ce;exact J;kernel_rfl;(iterate 3 exact J))|(apply Bj;exact J;kernel_rfl;(iterate 3 exact J);exact QM;exact J;exact J)|(apply De;exact J;kernel_rfl;exact J;exact J;(first|(apply Dj (j:=0);(iterate 5 exact J);exact hr;exact (by decide)));exact QA)|(apply Br;exact J;kernel_rfl;(iterate 3 exact J);(first|(apply Ay;exact J;exact Vh;exact Hx _ (hG.le QL) s z f e (hf1.le QL) hf2 (hx1.le QL) hx2 hf3 hx3;rintro vr hr1 hle1 rfl;refine ⟨hle1,QN,?_⟩)))|(apply Bm;kernel_rfl;exact J)|(apply Ig;(iterate 5 exact J);all_goals (intro hc;try simp only [hcS,reduceCtorEq] at hc;try (exfalso;omega)))|(apply Aj;exact J;all_goals (intro hc;try simp only [hcS,reduceCtorEq] at hc;try (exfalso;omega)))|(apply Gy;(iterate 3 exact J);exact QM;exact J;exact J))
       all_goals rfl
     · have et:Hd ((s,f),(t,g)) (z,e)=((s,f),(t,g)):=by unfold Hd;rw [if_pos hr,if_neg (fun h=>h.elim hk hl)]
       rw [et]
       repeat' (first|apply Ac|apply Au|apply Aa|apply Ab|(apply Ad;(iterate 3 exact J))|(apply Ai;exact J;exact Av rfl QM rfl;exact J;exact J)|(apply Af;(iterate 3 exact J);(first|(apply Ah;(iterate 3 exact J);exact QR;(iterate 3 exact J);skip)|(apply Ao;exact J;intro b;skip)|(apply Ag;exact J;intro b;skip)))|(apply Bf (n:=2) [0,1,2,3,4,5,6,7,8,9,10,11,12] [(0,0),(1,0),(2,0),(3,0),(4,0),(5,0),(6,0),(7,0),(8,0),(9,0),(10,1),(11,0),(12,0)];kernel_rfl)|(apply Ce;exact J;kernel_rfl;(iterate 3 exact J))|(apply Bj;exact J;kernel_rfl;(iterate 3 exact J);exact QM;exact J;exact J)|(apply De;exact J;kernel_rfl;exact J;exact J;(first|(apply Dj (j:=0);(iterate 5 exact J);exact hr;exact (by decide)));exact QA)|(apply Br;exact J;kernel_rfl;(iterate 3 exact J);(first|(apply Ay;exact J;exact Vh;exact Hx _ (hG.le QL) s z f e (hf1.le QL) hf2 (hx1.le QL) hx2 hf3 hx3;rintro vr hr1 hle1 rfl;refine ⟨hle1,QN,?_⟩)))|(apply Bm;kernel_rfl;exact J)|(apply Ig;(iterate 5 exact J);all_goals (intro hc;try simp only [hcS,reduceCtorEq] at hc;try (exfalso;omega)))|(apply Aj;exact J;all_goals (intro hc;try simp only [hcS,reduceCtorEq] at hc;try (exfalso;omega)))|(apply Gy;(iterate 3 exact J);exact QM;exact J;exact J))
       all_goals rfl
 · have hr0:¬ e.sh.ref=0:=by omega
   by_cases hk:g.kind=0
   · have et:Hd ((s,f),(t,g)) (z,e)=((s,f),(z,e)):=by unfold Hd;rw [if_neg hr0,if_pos (.inl hk)]
     rw [et]
     repeat' (first|apply Ac|apply Aa|apply Ab|(apply Ad;(iterate 3 exact J))|(apply Ai;exact J;exact Av rfl QM rfl;exact J;exact J)|(apply Bd;exact J;exact J;(first|(apply Dj (j:=1);(iterate 5 exact J);exact hr;exact (by decide)));exact QA)|(apply Af;(iterate 3 exact J);(first|(apply Ah;(iterate 3 exact J);exact QR;(iterate 3 exact J);skip)|(apply Ao;exact J;intro b;skip)|(apply Ag;exact J;intro b;skip)))|(apply Bf (n:=2) [0,1,2,3,4,5,6,7,8,9,10,11,12] [(0,0),(1,0),(2,0),(3,0),(4,0),(5,0),(6,0),(7,0),(8,0),(9,0),(10,1),(11,0),(12,0)];kernel_rfl)|(apply GP_un;exact J;kernel_rfl;exact J;exact J)|(apply Ce;exact J;kernel_rfl;(iterate 3 exact J))|(apply Bj;exact J;kernel_rfl;(iterate 3 exact J);exact QM;exact J;exact J)|(apply De;exact J;kernel_rfl;exact J;exact J;(first|(apply Dj (j:=1);(iterate 5 exact J);exact hr;exact (by decide)));exact QA)|(apply Bm;kernel_rfl;exact J)|(apply Ig;(iterate 5 exact J);all_goals (intro hc;try simp only [hcS,reduceCtorEq] at hc;try (exfalso;omega)))|(apply Aj;exact J;all_goals (intro hc;try simp only [hcS,reduceCtorEq] at hc;try (exfalso;omega)))|(apply Gy;(iterate 3 exact J);exact QM;exact J;exact J)|(apply K2a;exact J;kernel_rfl;exact J;exact J))
     all_goals rfl
   · have hf:Uk h (t,g):=hp.2.resolve_left hk
     obtain ⟨hf1,hf2,hf3,hf4⟩:=hf
     dsimp only at hf1 hf2 hf3 hf4
     by_cases hl:Jv g e<0
     · have et:Hd ((s,f),(t,g)) (z,e)=((s,f),(z,e)):=by unfold Hd;rw [if_neg hr0,if_pos (.inr hl)]
       rw [et]
       repeat' (first|apply Ac|apply Aa|apply Ab|(apply Ad;(iterate 3 exact J))|(apply Ai;exact J;exact Av rfl QM rfl;exact J;exact J)|(apply Bd;exact J;exact J;(first|(apply Dj (j:=1);(iterate 5 exact J);exact hr;exact (by decide)));exact QA)|(apply Af;(iterate 3 exact J);(first|(apply Ah;(iterate 3 exact J);exact QR;(iterate 3 exact J);skip)|(apply Ao;exact J;intro b;skip)|(apply Ag;exact J;intro b;skip)))|(apply Bf (n:=2) [0,1,2,3,4,5,6,7,8,9,10,11,12] [(0,0),(1,0),(2,0),(3,0),(4,0),(5,0),(6,0),(7,0),(8,0),(9,0),(10,1),(11,0),(12,0)];kernel_rfl)|(apply Ce;exact J;kernel_rfl;(iterate 3 exact J))|(apply Bj;exact J;kernel_rfl;(iterate 3 exact J);exact QM;exact J;exact J)|(apply De;exact J;kernel_rfl;exact J;exact J;(first|(apply Dj (j:=1);(iterate 5 exact J);exact hr;exact (by decide)));exact QA)|(apply Br;exact J;kernel_rfl;(iterate 3 exact J);(first|(apply Ay;exact J;exact Vh;exact Hx _ (hG.le QL) t z g e (hf1.le QL) hf2 (hx1.le QL) hx2 hf3 hx3;rintro vr hr1 hle1 rfl;refine ⟨hle1,QN,?_⟩)))|(apply Bm;kernel_rfl;exact J)|(apply Ig;(iterate 5 exact J);all_goals (intro hc;try simp only [hcS,reduceCtorEq] at hc;try (exfalso;omega)))|(apply Aj;exact J;all_goals (intro hc;try simp only [hcS,reduceCtorEq] at hc;try (exfalso;omega)))|(apply Gy;(iterate 3 exact J);exact QM;exact J;exact J))
       all_goals rfl
     · have et:Hd ((s,f),(t,g)) (z,e)=((s,f),(t,g)):=by unfold Hd;rw [if_neg hr0,if_neg (fun h=>h.elim hk hl)]
       rw [et]
       repeat' (first|apply Ac|apply Au|apply Aa|apply Ab|(apply Ad;(iterate 3 exact J))|(apply Ai;exact J;exact Av rfl QM rfl;exact J;exact J)|(apply Af;(iterate 3 exact J);(first|(apply Ah;(iterate 3 exact J);exact QR;(iterate 3 exact J);skip)|(apply Ao;exact J;intro b;skip)|(apply Ag;exact J;intro b;skip)))|(apply Bf (n:=2) [0,1,2,3,4,5,6,7,8,9,10,11,12] [(0,0),(1,0),(2,0),(3,0),(4,0),(5,0),(6,0),(7,0),(8,0),(9,0),(10,1),(11,0),(12,0)];kernel_rfl)|(apply Ce;exact J;kernel_rfl;(iterate 3 exact J))|(apply Bj;exact J;kernel_rfl;(iterate 3 exact J);exact QM;exact J;exact J)|(apply De;exact J;kernel_rfl;exact J;exact J;(first|(apply Dj (j:=1);(iterate 5 exact J);exact hr;exact (by decide)));exact QA)|(apply Br;exact J;kernel_rfl;(iterate 3 exact J);(first|(apply Ay;exact J;exact Vh;exact Hx _ (hG.le QL) t z g e (hf1.le QL) hf2 (hx1.le QL) hx2 hf3 hx3;rintro vr hr1 hle1 rfl;refine ⟨hle1,QN,?_⟩)))|(apply Bm;kernel_rfl;exact J)|(apply Ig;(iterate 5 exact J);all_goals (intro hc;try simp only [hcS,reduceCtorEq] at hc;try (exfalso;omega)))|(apply Aj;exact J;all_goals (intro hc;try simp only [hcS,reduceCtorEq] at hc;try (exfalso;omega)))|(apply Gy;(iterate 3 exact J);exact QM;exact J;exact J))
       all_goals rfl
def D8a (x:Fsh×Fct):Option Fct:=if x.2.kind=0 then none else some x.2
def Me (s:Fsh) (x:Bz):Value:=.agg (.int .i64 x.kind::(Wo s x.sh++[.int .i64 x.day])).toArray
def Jh (p:Pr):Bz:=Wp (D8a p.1) (D8a p.2)
def Ku (p:Pr):Fsh:=if p.1.2.kind=0 then (if p.2.2.kind=0 then Nv else p.2.1) else if p.2.2.kind=0 then p.1.1 else if Mo p.1.2.sh p.2.2.sh then p.1.1 else Nv
theorem Iea.nil:Iea Ki:=⟨by decide,by decide,by decide,by decide⟩
theorem scoreP_at {h:Ro}{p:Pr}(hp:F4a h p):Vl h (Ku p) (Jh p).sh∧Iea (Jh p).sh:=by
 unfold Ku Jh D8a
 by_cases h1:p.1.2.kind=0 <;> by_cases h2:p.2.2.kind=0
 · simp only [h1,h2,if_true];exact ⟨Vl.nil h,Iea.nil⟩
 · simp only [h1,h2,if_true,if_false];have:=hp.2.resolve_left h2;exact ⟨this.1.sh,this.2.1.1⟩
 · simp only [h1,h2,if_true,if_false];have:=hp.1.resolve_left h1;exact ⟨this.1.sh,this.2.1.1⟩
 · simp only [h1,h2,if_false,Wp]
   split
   · have:=hp.1.resolve_left h1;exact ⟨this.1.sh,this.2.1.1⟩
   · exact ⟨Vl.nil h,Iea.nil⟩
theorem score_c (h:Ro)(p:Pr)(hp:F4a h p):Val Tryz.prog 97 #[prV p] h (Me (Ku p) (Jh p)):=by
 refine Az (args:=[_]) ts_ok Go.Proofs.Tryz.func97 rfl rfl fun w0 X0 => ?_
 obtain ⟨⟨s,f⟩,⟨t,g⟩⟩:=p
 by_cases h1:f.kind=0 <;> by_cases h2:g.kind=0
 · have e1:Me (Ku ((s,f),(t,g))) (Jh ((s,f),(t,g)))=Me Nv No:=by unfold Ku Jh D8a;simp only [h1,h2,if_true];rfl
   rw [e1]
   repeat' (first|apply Ac|apply Au|apply Ap|apply Ak|apply Aa|apply Ab|(apply Ad;(iterate 3 exact J))|(apply Ai;exact J;exact Av rfl QM rfl;exact J;exact J)|(apply Af;(iterate 3 exact J);(first|(apply Ah;(iterate 3 exact J);exact QR;(iterate 3 exact J);skip)|(apply Ao;exact J;intro b;skip)|(apply Ag;exact J;intro b;skip)))|(apply Bf (n:=1) [0,1,4,5,6,2,3,7] [(0,0),(1,0),(2,0),(3,0),(4,2),(3,5),(5,1),(6,1),(7,1),(4,1),(6,1),(7,1)];kernel_rfl)|(apply Bj;exact J;kernel_rfl;(iterate 3 exact J);exact QM;exact J;exact J)|(apply De;exact J;kernel_rfl;exact J;exact J;(first|(apply Dj (j:=0);(iterate 6 exact J);exact (by decide))|(apply Dj (j:=1);(iterate 6 exact J);exact (by decide)));exact QA)|(apply Br;exact J;kernel_rfl;(iterate 3 exact J);(first|(apply Ah;(iterate 3 exact J);exact QR;(iterate 3 exact J);refine ⟨Le.refl _,QN,?_⟩)|(apply Ag;exact J;intro b;refine ⟨Le.refl _,QN,?_⟩)))|(apply Ia;kernel_rfl;exact J;exact J)|(apply Cj;(iterate 4 exact J);(first|(apply Ag;exact J;intro b;refine ⟨Le.refl _,QN,?_⟩)))|(apply Bm;kernel_rfl;exact J)|(apply Aj;exact J;all_goals (intro hc;try simp only [hcS,reduceCtorEq] at hc;try (exfalso;omega)))|(apply Ba;exact J;exact J;all_goals (intro hc;try simp only [hcS,reduceCtorEq] at hc;try (exfalso;omega)))|(apply Ih;(iterate 3 exact J);exact QM;exact J;exact J))
   all_goals rfl
 · have e1:Me (Ku ((s,f),(t,g))) (Jh ((s,f),(t,g)))=Me t ⟨1,g.sh,g.day⟩:=by unfold Ku Jh D8a;simp only [h1,h2,if_true,if_false];rfl
   rw [e1]
   repeat' (first|apply Ac|apply Ap|apply Ak|apply Aa|apply Ab|(apply Ad;(iterate 3 exact J))|(apply Ai;exact J;exact Av rfl QM rfl;exact J;exact J)|(apply Af;(iterate 3 exact J);(first|(apply Ah;(iterate 3 exact J);exact QR;(iterate 3 exact J);skip)|(apply Ao;exact J;intro b;skip)|(apply Ag;exact J;intro b;skip)))|(apply Bf (n:=1) [0,1,4,5,6,2,3,7] [(0,0),(1,0),(2,0),(3,0),(4,2),(3,5),(5,1),(6,1),(7,1),(4,1),(6,1),(7,1)];kernel_rfl)|(apply Bj;exact J;kernel_rfl;(iterate 3 exact J);exact QM;exact J;exact J)|(apply De;exact J;kernel_rfl;exact J;exact J;(first|(apply Dj (j:=0);(iterate 6 exact J);exact (by decide))|(apply Dj (j:=1);(iterate 6 exact J);exact (by decide)));exact QA)|(apply Br;exact J;kernel_rfl;(iterate 3 exact J);(first|(apply Ah;(iterate 3 exact J);exact QR;(iterate 3 exact J);refine ⟨Le.refl _,QN,?_⟩)|(apply Ag;exact J;intro b;refine ⟨Le.refl _,QN,?_⟩)))|(apply Ia;kernel_rfl;exact J;exact J)|(apply Cj;(iterate 4 exact J);(first|(apply Ag;exact J;intro b;refine ⟨Le.refl _,QN,?_⟩)))|(apply Bm;kernel_rfl;exact J)|(apply Aj;exact J;all_goals (intro hc;try simp only [hcS,reduceCtorEq] at hc;try (exfalso;omega)))|(apply Ba;exact J;exact J;all_goals (intro hc;try simp only [hcS,reduceCtorEq] at hc;try (exfalso;omega)))|(apply Ih;(iterate 3 exact J);exact QM;exact J;exact J))
   all_goals rfl
 · have e1:Me (Ku ((s,f),(t,g))) (Jh ((s,f),(t,g)))=Me s ⟨1,f.sh,f.day⟩:=by unfold Ku Jh D8a;simp only [h1,h2,if_true,if_false];rfl
   rw [e1]
   repeat' (first|apply Ac|apply Ap|apply Ak|apply Aa|apply Ab|(apply Aw;exact J;exact J)|(apply Ad;(iterate 3 exact J))|(apply Ai;exact J;exact Av rfl QM rfl;exact J;exact J)|(apply Af;(iterate 3 exact J);(first|(apply Ah;(iterate 3 exact J);exact QR;(iterate 3 exact J);skip)|(apply Ao;exact J;intro b;skip)|(apply Ag;exact J;intro b;skip)))|(apply Bf (n:=1) [0,1,4,5,6,2,3,7] [(0,0),(1,0),(2,0),(3,0),(4,2),(3,5),(5,1),(6,1),(7,1),(4,1),(6,1),(7,1)];kernel_rfl)|(apply Bj;exact J;kernel_rfl;(iterate 3 exact J);exact QM;exact J;exact J)|(apply De;exact J;kernel_rfl;exact J;exact J;(first|(apply Dj (j:=0);(iterate 6 exact J);exact (by decide))|(apply Dj (j:=1);(iterate 6 exact J);exact (by decide)));exact QA)|(apply Br;exact J;kernel_rfl;(iterate 3 exact J);(first|(apply Ah;(iterate 3 exact J);exact QR;(iterate 3 exact J);refine ⟨Le.refl _,QN,?_⟩)|(apply Ag;exact J;intro b;refine ⟨Le.refl _,QN,?_⟩)))|(apply Ia;kernel_rfl;exact J;exact J)|(apply Cj;(iterate 4 exact J);(first|(apply Ag;exact J;intro b;refine ⟨Le.refl _,QN,?_⟩)))|(apply Bm;kernel_rfl;exact J)|(apply Aj;exact J;all_goals (intro hc;try simp only [hcS,reduceCtorEq] at hc;try (exfalso;omega)))|(apply Ba;exact J;exact J;all_goals (intro hc;try simp only [hcS,reduceCtorEq] at hc;try (exfalso;omega)))|(apply Ih;(iterate 3 exact J);exact QM;exact J;exact J))
   all_goals rfl
 · obtain ⟨f1,f2,_⟩:=hp.1.resolve_left h1
   obtain ⟨g1,g2,_⟩:=hp.2.resolve_left h2
   dsimp only at f1 f2 g1 g2
   have hsm:=sameSh_c h s f.sh f1.sh f2.1 t g.sh g1.sh g2.1
   obtain ⟨m,hm⟩:∃ m,m=max f.day g.day:=⟨_,rfl⟩
   by_cases hq:Mo f.sh g.sh
   · have e1:Me (Ku ((s,f),(t,g))) (Jh ((s,f),(t,g)))=Me s ⟨2,f.sh,m⟩:=by unfold Ku Jh D8a;simp only [h1,h2,if_false,Wp,if_pos hq,hm]
     rw [e1]
     rw [decide_eq_true hq] at hsm
     repeat' (first|apply Ac|apply Ap|apply Ak|apply Aa|apply Ab|(apply GOl_max;(iterate 3 exact J);intro wn hwn)|(apply Aw;exact J;exact J)|(apply Ad;(iterate 3 exact J))|(apply Ai;exact J;exact Av rfl QM rfl;exact J;exact J)|(apply Af;(iterate 3 exact J);(first|(apply Ah;(iterate 3 exact J);exact QR;(iterate 3 exact J);skip)|(apply Ao;exact J;intro b;skip)|(apply Ag;exact J;intro b;skip)|(apply Aq;exact J;exact has157;exact hsm;skip)))|(apply Bf (n:=1) [0,1,4,5,6,2,3,7] [(0,0),(1,0),(2,0),(3,0),(4,2),(3,5),(5,1),(6,1),(7,1),(4,1),(6,1),(7,1)];kernel_rfl)|(apply Bj;exact J;kernel_rfl;(iterate 3 exact J);exact QM;exact J;exact J)|(apply De;exact J;kernel_rfl;exact J;exact J;(first|(apply Dj (j:=0);(iterate 6 exact J);exact (by decide))|(apply Dj (j:=1);(iterate 6 exact J);exact (by decide)));exact QA)|(apply Br;exact J;kernel_rfl;(iterate 3 exact J);(first|(apply Ah;(iterate 3 exact J);exact QR;(iterate 3 exact J);refine ⟨Le.refl _,QN,?_⟩)|(apply Ag;exact J;intro b;refine ⟨Le.refl _,QN,?_⟩)))|(apply Ia;kernel_rfl;exact J;exact J)|(apply Cj;(iterate 4 exact J);(first|(apply Ag;exact J;intro b;refine ⟨Le.refl _,QN,?_⟩)))|(apply Bm;kernel_rfl;exact J)|(apply Aj;exact J;all_goals (intro hc;try simp only [hcS,reduceCtorEq] at hc;try (exfalso;omega)))|(apply Ba;exact J;exact J;all_goals (intro hc;try simp only [hcS,reduceCtorEq] at hc;try (exfalso;omega)))|(apply Ih;(iterate 3 exact J);exact QM;exact J;exact J))
     all_goals
      have ew:wn=m:=by rw [hwn,hm]
      rw [ew];rfl
   · have e1:Me (Ku ((s,f),(t,g))) (Jh ((s,f),(t,g)))=Me Nv ⟨3,Ki,m⟩:=by unfold Ku Jh D8a;simp only [h1,h2,if_false,Wp,if_neg hq,hm]
     rw [e1]
     rw [decide_eq_false hq] at hsm
     repeat' (first|apply Ac|apply Ap|apply Ak|apply Aa|apply Ab|(apply GOl_max;(iterate 3 exact J);intro wn hwn)|(apply Aw;exact J;exact J)|(apply Ad;(iterate 3 exact J))|(apply Ai;exact J;exact Av rfl QM rfl;exact J;exact J)|(apply Af;(iterate 3 exact J);(first|(apply Ah;(iterate 3 exact J);exact QR;(iterate 3 exact J);skip)|(apply Ao;exact J;intro b;skip)|(apply Ag;exact J;intro b;skip)|(apply Aq;exact J;exact has157;exact hsm;skip)))|(apply Bf (n:=1) [0,1,4,5,6,2,3,7] [(0,0),(1,0),(2,0),(3,0),(4,2),(3,5),(5,1),(6,1),(7,1),(4,1),(6,1),(7,1)];kernel_rfl)|(apply Bj;exact J;kernel_rfl;(iterate 3 exact J);exact QM;exact J;exact J)|(apply De;exact J;kernel_rfl;exact J;exact J;(first|(apply Dj (j:=0);(iterate 6 exact J);exact (by decide))|(apply Dj (j:=1);(iterate 6 exact J);exact (by decide)));exact QA)|(apply Br;exact J;kernel_rfl;(iterate 3 exact J);(first|(apply Ah;(iterate 3 exact J);exact QR;(iterate 3 exact J);refine ⟨Le.refl _,QN,?_⟩)|(apply Ag;exact J;intro b;refine ⟨Le.refl _,QN,?_⟩)))|(apply Ia;kernel_rfl;exact J;exact J)|(apply Cj;(iterate 4 exact J);(first|(apply Ag;exact J;intro b;refine ⟨Le.refl _,QN,?_⟩)))|(apply Bm;kernel_rfl;exact J)|(apply Aj;exact J;all_goals (intro hc;try simp only [hcS,reduceCtorEq] at hc;try (exfalso;omega)))|(apply Ba;exact J;exact J;all_goals (intro hc;try simp only [hcS,reduceCtorEq] at hc;try (exfalso;omega)))|(apply Ih;(iterate 3 exact J);exact QM;exact J;exact J))
     all_goals
      have ew:wn=m:=by rw [hwn,hm]
      rw [ew];rfl
theorem Kya {C:Ctx}{l:Sl}{h:Ro}{ty:TypeId}{pos:String}{aft:Array Edge}{gd:Option (Nat×Bool)}{dst:Option Tmp}{t k e:TypeId}{x y:Operand}{b:Nat}{key:Bl}{m:List (Bl×Pr)}{T E:Ty}{q:Pr}(K:Vn C.P k Fr)(hT:Cu t C.ts=some T)(hTd:T.desc=.map k e)(hE:Cu e C.ts=some E)(hz:E.zero=prV pr0)
  (hx:evl l x=some (.map (some b))) (hy:evl l y=some (Fr key)) (hq:q=(Cv key m).getD pr0):OV C l [Dk Fr prV b m] h ⟨dst,.lookup t x y false,ty,pos,aft,gd⟩ (prV q):=by
 have:=If (ev:=prV) (h:=h) (ty:=ty) (pos:=pos) (aft:=aft) (gd:=gd) (dst:=dst) (c:=false) (m:=m) (b:=b) K hT hTd hE hx hy rfl
 cases hl:Cv key m with
 | none=>rw [hl] at this hq;rw [hq];rw [show prV ((none:Option Pr).getD pr0)=E.zero from hz.symm];exact this
 | some a=>rw [hl] at this hq;rw [hq];exact this
def putP (m:List (Bl×Pr)) (x:Fsh×Fct):List (Bl×Pr):=Jo x.2.sh.g (Hd ((Cv x.2.sh.g m).getD pr0) x) m
def Gm (vs:List (Fsh×Fct)):List (Bl×Pr):=vs.foldl putP []
theorem Kk (vs:List (Fsh×Fct))(x:Fsh×Fct):Gm (vs++[x])=Jo x.2.sh.g (Hd ((Cv x.2.sh.g (Gm vs)).getD pr0) x) (Gm vs):=by unfold Gm;rw [List.foldl_append];rfl
noncomputable def Qe (l:List (Fsh×Fct)):List (Bl×Pr):=Gm (Do l)
theorem Rn {α:Type}{P:List α→Prop}(h0:P [])(h1:∀ l x,P l→P (l++[x]))(l:List α):P l:=by
 rw [← List.reverse_reverse l]
 induction l.reverse with
 | nil=>exact h0
 | cons x r ih=>rw [List.reverse_cons];exact h1 _ _ ih
theorem D6a {h:Ro}{vs:List (Fsh×Fct)}:(∀ x∈vs,Uk h x)→∀ g,F4a h ((Cv g (Gm vs)).getD pr0):=by
 refine Rn (P:=fun vs=>(∀ x∈vs,Uk h x)→∀ g,F4a h ((Cv g (Gm vs)).getD pr0)) (fun _ g=>F4a.zero h) (fun vs x ih hv g => ?_) vs
 rw [Kk,To]
 have ih:=ih fun y hy=>hv y (by simp [hy])
 split
 · exact (ih _).take (hv x (by simp))
 · exact ih g
open Classical in
theorem Qk {h:Ro}{A:Option Addr}{n:Nat}{l:List (Fsh×Fct)}(hx:Co h A n l):∀ x∈Do l,Uk h x:=fun x hv=>by
 unfold Do at hv
 rw [List.mem_filter,decide_eq_true_eq] at hv
 have:=hx.fat x hv.1
 exact ⟨this.1,this.2,hv.2.2,hv.2.1⟩
theorem pairs_c (h:Ro)(hG:Kg h)(A:Option Addr)(n c:Nat)(l:List (Fsh×Fct))(hx:Co h A n l):Fn Tryz.prog 96 #[.slice A n c] [] h fun u Es h'=>∃ bm,u=.map (some bm)∧Es=[Dk Fr prV bm (Qe l)]:=by
 refine Bo (args:=[_]) ts_ok Go.Proofs.Tryz.func96 rfl rfl fun w0 X0 => ?_
 repeat' (first|apply Ac|apply Ak|apply Aa|apply Ab|(apply Ad;(iterate 3 exact J))|(apply Af;(iterate 3 exact J);(first|(apply Ah;(iterate 3 exact J);exact QR;(iterate 3 exact J);skip)|(apply Ag;exact J;intro b;skip)|(apply Et Fr prV;intro bm;skip)|(apply Ay;exact J;exact has155;exact valid_c _ A n c;rintro vr hr1 hle1 ⟨bx,rfl,hcb⟩;skip))))
 generalize b=bT
 refine Cs (Es':=[Blk bT 178 [.map (some bm)],Dk Fr prV bm (Gm [])]) QT ?_
 refine Gg (R:=FR) (xs:=Do l) (gf:=207) (lb:=[.pointer (some ⟨bx,0,none⟩)]) rfl rfl has207 (validSeq _ A n c l (hx.le hle1) bx hcb) (by rintro x u h2 rfl;rfl) rfl
  (fun pre Es h2=>Es=[Blk bT 178 [.map (some bm)],Dk Fr prV bm (Gm pre)]) (fun _ _ _ _=>False)
  (fun pre Es h2 h3 hl e=>e) (fun _ _ _ _ _ _ h=>h.elim) rfl ?_ ?_ (fun _ _ _ _ _ _ _ _ h=>h.elim)
 · rintro lid r0 w1 X1 pre x post u Es1 h1 hxe rfl rfl hle hst
   have hgood:Uk h1 x:=(Qk hx x (by rw [hxe];simp)).le (hle1.trans hle)
   have hpr:F4a h1 ((Cv x.2.sh.g (Gm pre)).getD pr0):=D6a (fun y hy=>(Qk hx y (by rw [hxe];simp [hy])).le (hle1.trans hle)) _
   rw [show (Gm (pre++[x]))=_ from Kk pre x]
   obtain ⟨q,hq⟩:∃ q,q=(Cv x.2.sh.g (Gm pre)).getD pr0:=⟨_,rfl⟩
   rw [← hq] at hpr ⊢
   generalize Gm pre=m at *
   repeat' (first|apply Ap|apply Ak|apply Aa|apply Ab|(apply Jf;exact J;exact QK;exact hst)|(apply Af;(iterate 3 exact J);(first|(apply Ah;(iterate 3 exact J);exact QR;(iterate 3 exact J);skip)|(apply Ag;exact J;intro b;skip)))|(apply Bf (n:=4) [0,1,2,3,4,5,6,7,8,9,10,11] [(0,0),(1,0),(2,0),(3,0),(4,0),(5,0),(6,0),(7,0),(8,0),(9,0),(10,1),(11,1)];kernel_rfl)|(apply Ce;exact J;kernel_rfl;(iterate 3 exact J))|(apply Bj;exact J;kernel_rfl;(iterate 3 exact J);exact QM;exact J;exact J)|(apply De;exact J;kernel_rfl;exact J;exact J;(first|(apply Kya (key:=x.2.sh.g) (b:=bm) (m:=m) KG;(iterate 6 exact J);exact hq));exact QA)|(apply Br;exact J;kernel_rfl;(iterate 3 exact J);(first|(apply Ay;exact J;exact has156;exact take_c _ (hG.le QL) q x (hpr.le QL) (hgood.le QL);rintro v2 h2 hle2 rfl;refine ⟨hle2,QN,?_⟩)|(apply Cy (ek:=Fr) (ev:=prV) (b:=bm) (m:=m) (key:=x.2.sh.g) (u:=Hd q x) KG;(iterate 6 exact J);exact QR;refine ⟨Le.refl _,QN,?_⟩)))|(apply Bm;kernel_rfl;exact J))
   all_goals
    refine Cs (Es':=[Ic lid { r0 with state:=.busy },Blk bT 178 [.map (some bm)],Dk Fr prV bm (Jo x.2.sh.g (Hd q x) m)]) QT (Nj (r0:=r0) rfl .here ?_)
    rfl
 · rintro D h1 Es1 hle rfl
   repeat' (first|apply Ac|apply Ap|apply Aa|apply Ab|(apply Ad;(iterate 3 exact J))|(apply Ai;exact J;exact Av rfl QM rfl;exact J;exact J))
   all_goals
    refine Cxa (Nf rfl QK (Rt_S (rs:=[.tmp 2]) (vs:=[.map (some bm)]) (Fs:=[Dk Fr prV bm (Qe l)]) rfl rfl ⟨rfl,trivial⟩ (by (repeat (first|exact List.Sublist.refl _|exact List.nil_sublist _|apply List.Sublist.cons_cons|apply List.Sublist.cons));done) ⟨bm,rfl,rfl⟩))
noncomputable def prOf (l:List (Fsh×Fct)) (g:Bl):Pr:=(Cv g (Qe l)).getD pr0
theorem prOf_at {h:Ro}{A:Option Addr}{n:Nat}{l:List (Fsh×Fct)}(hx:Co h A n l)(g:Bl):F4a h (prOf l g):=D6a (Qk hx) g
theorem scoreOf_c (h:Ro)(hG:Kg h)(A:Option Addr)(n c:Nat)(l:List (Fsh×Fct))(hx:Co h A n l)(g:Bl):Res Tryz.prog 61 #[.slice A n c,Fr g] h (fun u _=>u=Me (Ku (prOf l g)) (Jh (prOf l g))):=by
 refine Bq (args:=[_,_]) ts_ok Go.Proofs.Tryz.func61 rfl rfl fun w0 X0 => ?_
 have hpr:=prOf_at hx g
 obtain ⟨q,hq⟩:∃ q,q=prOf l g:=⟨_,rfl⟩
 rw [← hq] at hpr ⊢
 repeat' (first|apply Ac|apply Aa|apply Ab|(apply Af;(iterate 3 exact J);(first|(apply Ao;exact J;intro b;skip)|(apply Ag;exact J;intro b;skip)))|(apply Bf (n:=1) [0,1,2,3,4,5] [(0,0),(2,0),(1,1),(3,0),(4,1),(5,1)];kernel_rfl)|(apply Ce;exact J;kernel_rfl;(iterate 3 exact J))|(apply Bj;exact J;kernel_rfl;(iterate 3 exact J);exact QM;exact J;exact J)|(apply De;exact J;kernel_rfl;exact J;exact J;(first|(apply Kya (key:=g) (b:=bm) (m:=Qe l) KG;(iterate 6 exact J);exact hq));exact QA)|(apply Br;exact J;kernel_rfl;(iterate 3 exact J);(first|(apply Ah;(iterate 3 exact J);exact QR;(iterate 3 exact J);refine ⟨Le.refl _,QN,?_⟩)|(apply Bi;exact J;exact has96;exact pairs_c _ (hG.le QL) A n c l (hx.le QL);exact QT;rintro va Ea ha hla ⟨bm,rfl,rfl⟩;refine ⟨hla,QN,?_⟩)|(apply Aq;exact J;exact has97;exact score_c _ q (hpr.le QL);refine ⟨Le.refl _,QN,?_⟩)))|(apply Bm;kernel_rfl;exact J)|(apply Gy;(iterate 3 exact J);exact QM;exact J;exact J))
 all_goals rfl
end Go.Hw
namespace Go.Hw
open Go
attribute [local irreducible] GO GOl GDp Val Fn Res At Fx Blk By Dk Cl Has Yl Naa
open Go.Proofs (Tryz.prog ltOf)
open Go.Sort (SWO)
def LtG (a b:Bl):Prop:=a.s<b.s∨(a.s=b.s∧(a.c<b.c∨(a.c=b.c∧(a.h<b.h∨(a.h=b.h∧a.a<b.a)))))
instance (a b:Bl):Decidable (LtG a b):=by unfold LtG;infer_instance
theorem cmpG_lt {a b:Bl}:Kda a b<0↔LtG a b:=by
 unfold Kda LtG
 simp only [Rx,show orL []=0 from rfl]
 unfold Ey
 (repeat' split) <;> omega
theorem LtG.trans {a b c:Bl}(h1:LtG a b)(h2:LtG b c):LtG a c:=by unfold LtG at *;omega
theorem LtG.irrefl (a:Bl):¬ LtG a a:=by unfold LtG;omega
theorem LtG.tri (a b:Bl):LtG a b∨a=b∨LtG b a:=by
 rcases a with ⟨a1,a2,a3,a4⟩;rcases b with ⟨b1,b2,b3,b4⟩
 unfold LtG
 simp only [Bl.mk.injEq]
 omega
theorem G5a (a b:Bl):ltOf Kda a b=decide (LtG a b):=by
 unfold ltOf;rw [decide_eq_decide];exact cmpG_lt
theorem swoG:SWO (ltOf Kda) where
 irrefl x:=by rw [G5a];exact decide_eq_false (LtG.irrefl x)
 trans x y z h1 h2:=by rw [G5a,decide_eq_true_eq] at *;exact h1.trans h2
 ntrans x y z h1 h2:=by rw [G5a,decide_eq_false_iff_not] at *;unfold LtG at *;omega
theorem totG (x y:Bl)(h1:ltOf Kda x y=false)(h2:ltOf Kda y x=false):x=y:=by
 rw [G5a,decide_eq_false_iff_not] at *
 rcases LtG.tri x y with h|h|h
 · exact absurd h h1
 · exact h
 · exact absurd h h2
def Rl (l:List Bl):List Bl:=Qd Kda l
theorem Pa (l:List Bl):(Rl l).Perm l:=Gna Kda l
theorem Dja (l:List Bl):(Rl l).length=l.length:=Zt Kda l
theorem sortG_mem {l:List Bl}{g:Bl}:g∈Rl l↔g∈l:=(Pa l).mem_iff
theorem Baa (l:List Bl):(Rl l).Pairwise fun a b=>¬ LtG b a:=by
 have h:=List.pairwise_mergeSort (le:=fun x y => !(ltOf Kda) y x) (fun a b c h1 h2=>by
  simp only [Bool.not_eq_true',G5a,decide_eq_false_iff_not] at *
  unfold LtG at *;omega) (fun a b=>by
  simp only [Bool.or_eq_true,Bool.not_eq_true',G5a,decide_eq_false_iff_not]
  unfold LtG;omega) l
 refine h.imp fun {a b} q => ?_
 simpa only [Bool.not_eq_true',G5a,decide_eq_false_iff_not] using q
theorem sortG_lt {l:List Bl}(hn:l.Nodup):(Rl l).Pairwise LtG:=by
 have h1:=Baa l
 have h2:(Rl l).Nodup:=(Pa l).nodup_iff.2 hn
 refine (List.pairwise_and_iff.2 ⟨h1,h2⟩).imp fun {a b} ⟨q1,q2⟩ => ?_
 rcases LtG.tri a b with h|h|h
 · exact h
 · exact absurd h q2
 · exact absurd h q1
theorem Gma {a b:List Bl}(h:a.Perm b):Rl a=Rl b :=
 List.Perm.eq_of_pairwise (le:=fun a b=>¬ LtG b a) (fun a b _ _ h1 h2=>by
  rcases LtG.tri a b with h|h|h
  · exact absurd h h2
  · exact h
  · exact absurd h h1) (Baa a) (Baa b) (((Pa a).trans h).trans (Pa b).symm)
theorem Gla (e:TypeId)(v:Value)(xs:List Bl)(n:Nat)(h:Ro)(hn:n≤1000000000)(hx:xs.length=n) :
  Fn Tryz.prog 277 #[v,.func (.func 251) #[] #[]] [By e 4 v n (xs.flatMap Km)] h fun u Es _=>u=.tuple #[]∧Es=[By e 4 v n ((Rl xs).flatMap Km)] :=
 sortFnK Km 4 (fun _=>rfl) (by decide) Kda
  (fun blk off cap d w hc hH hb hs=>Go.Proofs.AnyQ.slices_SortFunc_total Go.Proofs.Tryz.sortGames 4 (fun w=>ts_ok.run_agg (n:=38) rfl w) (fun w=>ts_ok.run_size (n:=38) rfl w) Km (fun _=>rfl) (fun x u hu=>by
    simp only [Km,List.mem_cons,List.not_mem_nil,or_false] at hu
    rcases hu with rfl|rfl|rfl|rfl <;> rfl) Kda swoG 251 #[] blk off cap d w (Go.Proofs.enters_of Go.Proofs.Tryz.func251 (by kernel_rfl) rfl) hc hH hb hs totG)
  (fun p cap w=>Go.Proofs.AnyF.slices_SortFunc_none Go.Proofs.Tryz.sortGames p cap _ w)
  (fun x y=>order_c _ x y) e v xs n h hn hx
def Hv (ok:Bl→Pr→Bool) (m:List (Bl×Pr)):List Bl:=(m.filter fun q=>ok q.1 q.2).map (·.1)
theorem L6a {ok:Bl→Pr→Bool}{out:List Bl}{r1 r2:List (Bl×Pr)}{q:Bl×Pr}{T:List Bl}(h:(out++Hv ok (r1++q::r2)).Perm T)(ho:ok q.1 q.2=true):((out++[q.1])++Hv ok (r1++r2)).Perm T:=by
 refine List.Perm.trans ?_ h
 unfold Hv
 simp only [List.filter_append,List.filter_cons,ho,if_true,List.map_append,List.map_cons,List.append_assoc,List.singleton_append]
 exact List.Perm.append_left _ List.perm_middle.symm
theorem keysOf_no {ok:Bl→Pr→Bool}{out:List Bl}{r1 r2:List (Bl×Pr)}{q:Bl×Pr}{T:List Bl}(h:(out++Hv ok (r1++q::r2)).Perm T)(ho:ok q.1 q.2=false):(out++Hv ok (r1++r2)).Perm T:=by
 unfold Hv at *
 simpa only [List.filter_append,List.filter_cons,ho,Bool.false_eq_true,if_false,List.map_append] using h
theorem sorted_c (h:Ro)(mb:Nat)(m:List (Bl×Pr))(hn:m.length≤1000000)(okf:Nat)(cs:List Value)(ok:Bl→Pr→Bool)(hh:Has Tryz.prog okf)(hok:∀ h',Le h h'→∀ q∈m,Val Tryz.prog okf ([Fr q.1,prV q.2]++cs).toArray h' (.bool (ok q.1 q.2))) :
  Fn Tryz.prog 250 #[.map (some mb),.func (.func 251) #[] #[],.func (.func okf) #[] cs.toArray] [Dk Fr prV mb m] h fun u Es h'=>Es=[]∧∃ A c,u=.slice A (Rl (Hv ok m)).length c∧Cc Km 4 h' A (Rl (Hv ok m)).length (Rl (Hv ok m)):=by
 refine Bo (args:=[_,_,_]) ts_ok Go.Proofs.Tryz.func250 rfl rfl fun w0 X0 => ?_
 repeat' (first|apply Ac|apply Ak|apply Aa|apply Ab|(apply Ad;(iterate 3 exact J))|(apply Af;(iterate 3 exact J);(first|(apply A1a (ek:=Fr) (ev:=prV);(iterate 3 exact J);intro rr;exact QR;intro rr;skip))))
 refine Eh 38 4 ?_
 refine Bt (X:=List Bl×List (Bl×Pr)×Option (Bl×Pr)×Option Addr×Nat×Ro) (fun x=>Le h x.2.2.2.2.2∧(x.1++Hv ok x.2.1).Perm (Hv ok m)∧x.1.length+x.2.1.length≤m.length∧∀ q∈x.2.1,q∈m) (fun x=>x.2.1.length)
  (fun x=>[(10,.pointer (some ⟨rr,0,none⟩)),(6,.slice x.2.2.2.1 x.1.length x.2.2.2.2.1),(1,.func (.func 251) #[] #[]),(2,.func (.func okf) #[] cs.toArray)])
  (fun x=>[Naa Fr prV mb rr m x.2.1 x.2.2.1,By 38 4 (.slice x.2.2.2.1 x.1.length x.2.2.2.2.1) x.1.length (x.1.flatMap Km)]) (fun x=>x.2.2.2.2.2) ([],m,none,none,0,h) ⟨Le.refl _,.refl _,by simp,fun q hq=>hq⟩ QS QT rfl ?_
 rintro ⟨out,rem,cur,A9,c9,hk⟩ ⟨hlk,hI,hln,hsub⟩ ih
 dsimp only at hlk hI hln hsub ih ⊢
 repeat' (first|apply Ac|apply Au|apply Ap|apply Ak|apply Aa|apply Ab|(apply Bn;exact J)|(apply Ad;(iterate 3 exact J))|(apply Ai;exact J;exact Av rfl QM rfl;exact J;exact J)|(apply Bd;exact J;exact J;(first|(apply Kza (ek:=Fr) (ev:=prV) (b:=mb) (m:=m) (rem:=r1++r2) (p:=q);exact J));exact QA)|(apply Af;(iterate 3 exact J);(first|(apply Ah;(iterate 3 exact J);exact QR;(iterate 3 exact J);skip)|(apply Ag;exact J;intro b;skip)|(apply Fya;exact J;intro rem' cur';exact QR;intro hrem;rotate_left;intro q r1 r2 hrem;rotate_left;all_goals skip)|(apply Cd (f:=okf) (fs:=[]) (cs:=cs);exact J;exact J;exact hh;exact hok _ (hlk.trans QL) q (hsub q (by rw [hrem];simp));skip)|(apply Bi;exact J;exact has277;exact Gla 38 _ out out.length hk (by omega) rfl;exact QT;rintro vs Ea2 ha2 hla2 ⟨rfl,rfl⟩;skip)|(apply Bc (enc:=Km) (n:=1) [_];(iterate 3 exact J);exact List.cons_ne_nil _ _;(iterate 4 exact J);exact fun _=>rfl;exact J;exact J;intro b1 h1 hle1 hs1;skip)|(apply Bk (enc:=Km) (xs:=out);(iterate 7 exact J);exact hs1;exact fun _=>rfl;exact fun _=>Ci rfl;intro v1;exact QR;(have hq9:=congrArg List.length hrem;simp at hq9;omega);exact J;intro A1 c1;skip)))|(apply Aj;exact J;all_goals (intro hc;try simp only [hcS,reduceCtorEq] at hc;try (exfalso;omega))))
 · have hf:=hI
   rw [hrem] at hf
   simp only [Hv,List.filter_nil,List.map_nil,List.append_nil] at hf
   have e:=Gma hf
   have el:=Dja out
   rw [show (List.filter (fun q=>ok q.1 q.2) m).map (·.1)=Hv ok m from rfl] at e
   rw [e] at el ⊢
   refine Ge (enc:=Km) (e:=38) (sz:=4) (n:=out.length) (xs:=Rl (Hv ok m)) (fun _=>rfl) el QK ?_
   intro A2 c2 h2 hle2 e2 hnc2 hs2
   injection e2 with e21 _ e23
   subst e21;subst e23
   refine Ca rfl rfl rfl (List.nil_sublist _) ⟨rfl,A9,c9,?_,?_⟩
   · rw [el]
   · rw [el];exact hs2
 all_goals
  have hq9:=congrArg List.length hrem
  simp only [List.length_append,List.length_cons] at hq9
  rw [hrem] at hI hsub
  have hsub2:∀ q'∈r1++r2,q'∈m:=fun q' hq'=>hsub q' (by
   rw [List.mem_append] at hq' ⊢
   exact hq'.imp id (List.mem_cons_of_mem _))
 · have h2:=ih (out++[q.1],r1++r2,some q,A1,c1,h1) ⟨hlk.trans hle1,L6a hI (by assumption),by simp;omega,hsub2⟩ (by simp;omega)
   dsimp only at h2
   rw [List.length_append] at h2
   refine Bw QS QT (h2)
 · have h2:=ih (out,r1++r2,some q,A9,c9,hk) ⟨hlk,keysOf_no hI (by assumption),by simp;omega,hsub2⟩ (by simp;omega)
   refine Bw QS QT (h2)
theorem games1_c (h:Ro)(g:Bl)(p:Pr)(b1 b2:Nat)(season comp:Int)(h1:At h ⟨b1,0,none⟩ [.int .i64 season])(h2:At h ⟨b2,0,none⟩ [.int .i64 comp]):Val Tryz.prog 252 #[Fr g,prV p,.pointer (some ⟨b1,0,none⟩),.pointer (some ⟨b2,0,none⟩)] h (.bool (decide (g.s=season∧g.c=comp))):=by
 refine Az (args:=[_,_,_,_]) ts_ok Go.Proofs.Tryz.func252 rfl rfl fun w0 X0 => ?_
 repeat' (first|apply Ac|apply Aa|apply Ab|(apply Aw;exact J;exact J)|(apply Ad;(iterate 3 exact J))|(apply Ai;exact J;exact Av rfl QM rfl;exact J;exact J)|(apply Bd;exact J;exact J;(first|(apply Ar;exact J;first|exact Bh rfl (by assumption) rfl|exact Dc rfl (by assumption) rfl|exact Db rfl (by assumption) rfl|exact Lv_roF3 rfl (by assumption) rfl));exact QA)|(apply Af;(iterate 3 exact J);(first|(apply Ao;exact J;intro b;skip)))|(apply Ba;exact J;exact J;all_goals (intro hc;try simp only [hcS,reduceCtorEq] at hc;try (exfalso;omega))))
 all_goals (first|(apply Bb;(iterate 3 exact J)))
 all_goals (refine Dg ?_;(try simp only [Kt] at *);grind)
theorem Pg {κ α:Type}[DecidableEq κ](x:κ)(a:α):∀ (m:List (κ×α)),(Jo x a m).map (·.1)=if x∈m.map (·.1) then m.map (·.1) else m.map (·.1)++[x]
 | []=>by simp [Jo]
 | (y,b)::r=>by
   unfold Jo
   by_cases h:y=x
   · simp [h]
   · have ih:=Pg x a r
     simp only [h,if_false,List.map_cons,ih]
     by_cases h2:x∈r.map (·.1)
     · simp [h2]
     · rw [if_neg h2,if_neg (by rw [List.mem_cons];rintro (e|e);exact h e.symm;exact h2 e)];rfl
theorem D5a (vs:List (Fsh×Fct)):((Gm vs).map (·.1)).Nodup:=by
 refine Rn (P:=fun vs=>((Gm vs).map (·.1)).Nodup) (by simp [Gm]) (fun vs x ih => ?_) vs
 rw [Kk,Pg]
 split
 · exact ih
 · rename_i h
   rw [List.nodup_append]
   refine ⟨ih,by simp,fun a ha b hb => ?_⟩
   rw [List.mem_singleton] at hb
   subst hb
   exact fun e=>h (e ▸ ha)
theorem Lva (vs:List (Fsh×Fct)):(Gm vs).length≤vs.length:=by
 refine Rn (P:=fun vs=>(Gm vs).length≤vs.length) (Nat.le_refl _) (fun vs x ih => ?_) vs
 have h:=congrArg List.length (Pg x.2.sh.g (Hd ((Cv x.2.sh.g (Gm vs)).getD pr0) x) (Gm vs))
 rw [Kk,List.length_append,List.length_singleton]
 split at h <;> simp at h <;> omega
theorem Gxa {vs:List (Fsh×Fct)}{g:Bl}:g∈(Gm vs).map (·.1)↔∃ x∈vs,x.2.sh.g=g:=by
 refine Rn (P:=fun vs=>g∈(Gm vs).map (·.1)↔∃ x∈vs,x.2.sh.g=g) (by simp [Gm]) (fun vs x ih => ?_) vs
 rw [Kk,Pg]
 split
 · rename_i h
   rw [ih]
   constructor
   · rintro ⟨y,h1,h2⟩;exact ⟨y,by simp [h1],h2⟩
   · rintro ⟨y,h1,h2⟩
     rw [List.mem_append,List.mem_singleton] at h1
     rcases h1 with h1|rfl
     · exact ⟨y,h1,h2⟩
     · rw [h2] at h;exact ih.1 h
 · rw [List.mem_append,ih,List.mem_singleton]
   constructor
   · rintro (⟨y,h1,h2⟩|h1)
     · exact ⟨y,by simp [h1],h2⟩
     · exact ⟨x,by simp,h1.symm⟩
   · rintro ⟨y,h1,h2⟩
     rw [List.mem_append,List.mem_singleton] at h1
     rcases h1 with h1|rfl
     · exact .inl ⟨y,h1,h2⟩
     · exact .inr h2.symm
theorem Zz {h:Ro}{A:Option Addr}{n:Nat}{l:List (Fsh×Fct)}(hx:Co h A n l):(Qe l).length≤1000000:=by
 have h1:=Lva (Do l)
 have h2:(Do l).length≤l.length:=by unfold Do;exact List.length_filter_le _ _
 have h3:=hx.row.len
 have h4:=hx.small
 unfold Qe;omega
noncomputable def Np (l:List (Fsh×Fct)) (season comp:Int):List Bl:=Rl (Hv (fun g _=>decide (g.s=season∧g.c=comp)) (Qe l))
theorem games_c (h:Ro)(hG:Kg h)(A:Option Addr)(n c:Nat)(l:List (Fsh×Fct))(hx:Co h A n l)(season comp:Int):Res Tryz.prog 208 #[.slice A n c,.int .i64 season,.int .i64 comp] h (fun u h'=>∃ A c,u=.slice A (Np l season comp).length c∧Cc Km 4 h' A (Np l season comp).length (Np l season comp)):=by
 refine Bq (args:=[_,_,_]) ts_ok Go.Proofs.Tryz.func208 rfl rfl fun w0 X0 => ?_
 repeat' (first|apply Ac|apply Aa|apply Ab|(apply Ad;(iterate 3 exact J))|(apply Af;(iterate 3 exact J);(first|(apply Ao;exact J;intro b;skip)|(apply Bi;exact J;exact has96;exact pairs_c _ (hG.le QL) A n c l (hx.le QL);exact QT;rintro va Ea ha hla ⟨bm,rfl,rfl⟩;skip)|(refine Cq (e:=3) (cs:=[.int .i64 season]) QK ?_;intro h2 hle2 hc2;refine Cq (e:=3) (cs:=[.int .i64 comp]) QK ?_;intro h3 hle3 hc3;apply Bi;exact J;exact has250;exact sorted_c _ bm (Qe l) (Zz hx) 252 [_,_] (fun g _=>decide (g.s=season∧g.c=comp)) has252 (fun h' hl q hq=>games1_c h' q.1 q.2 _ _ season comp ((hc2.le hle3).le hl) (hc3.le hl));exact QT;rintro v4 E4 h4 hla4 ⟨rfl,A4,c4,rfl,hs4⟩;skip))))
 all_goals (first|(apply Cb;(iterate 3 exact J)))
 all_goals exact ⟨_,_,rfl,hs4⟩
end Go.Hw

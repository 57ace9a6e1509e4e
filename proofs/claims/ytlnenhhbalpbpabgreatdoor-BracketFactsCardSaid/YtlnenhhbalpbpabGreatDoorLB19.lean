import Derived.Test.YtlnenhhbalpbpabGreatDoorBI
import Derived.Test.YtlnenhhbalpbpabGreatDoorBH
import Derived.Test.YtlnenhhbalpbpabGreatDoorSB
import Derived.Test.YtlnenhhbalpbpabGreatDoorEB
import Derived.Test.YtlnenhhbalpbpabGreatDoorHB
import Derived.Test.YtlnenhhbalpbpabGreatDoorHF
set_option linter.all false
set_option maxRecDepth 100000
set_option maxHeartbeats 8000000
namespace Go.Hw
open Go
attribute [local irreducible] GO GOl GDp Val Fn Res At Fx Blk By Dk Cl Has Yl Mn Ew Yx Vd Md Aaa Hk Kq ofF Ma C4a
open Go.Proofs (Tryz.prog)
theorem view_all {a b:List (Fsh×Fct)}(h32:Kd (fcs a))(hm:∀ p,p∈b↔p∈a)(s co:Int)(t:Dh):Ma (fcs b) s co t=Ma (fcs a) s co t:=by
 have he:∀ x,x∈fcs b↔x∈fcs a:=fun x=>by
  unfold fcs
  rw [List.mem_map,List.mem_map]
  exact ⟨fun ⟨p,q,e⟩=>⟨p,(hm p).1 q,e⟩,fun ⟨p,q,e⟩=>⟨p,(hm p).2 q,e⟩⟩
 exact viewB_ext (fun f hf=>h32 f ((he f).1 hf)) h32 (fun x _=>he x) s co t
theorem leg_mem {l:List RdS}{i j k:Nat}(hi:i<l.length)(hj:j<(l.getD i rd0).2.length)(hk:k<((l.getD i rd0).2.getD j du0).2.ls.length){t:Dh}:((l.getD i rd0).2.getD j du0).2.ls.getD k Ep∈Cp ⟨t,rounds l⟩:=by
 have m1:=mem7 rd0 hi
 have m2:=mem7 du0 hj
 have m3:=mem7 Ep hk
 unfold Cp
 refine List.mem_flatMap.2 ⟨Ch (l.getD i rd0).2,List.mem_map.2 ⟨_,m1,rfl⟩,List.mem_flatMap.2 ⟨((l.getD i rd0).2.getD j du0).2,List.mem_map.2 ⟨_,m2,rfl⟩,m3⟩⟩
theorem Hna (h:Ro)(hG:Kg h)(A:Option Addr)(n c:Nat)(l:List (Fsh×Fct))(hx:LedIn h A n c l)(hcc:∀ p∈l,p.1.cl.n≤p.1.cl.c)(s co:Int)(t:Dh)(ix:Int)(hix:0≤ix):Res Tryz.prog 3 #[.slice A n c,.int .i64 s,.int .i64 co,Gca t,.int .u64 ix] h (fun u _=>u=.bool true):=by
 refine Bq (args:=[_,_,_,_,_]) ts_ok Go.Proofs.Tryz.func3 rfl rfl fun w0 X0 => ?_
 have hfew:=fewF_c h A n c l hx.row hx.small 14
 have hsane:=sane21_c h
 by_cases hF:(∀ p∈l,Ux p.1 p.2)∧(n:Int)≤14
 case' neg =>
  rw [decide_eq_false hF] at hfew
  repeat' (first|apply Ac|apply Au|apply Aa|apply Ab|(apply Aw;exact J;exact J)|(apply Ad;(iterate 3 exact J))|(apply Af;(iterate 3 exact J);(first|(apply Ao;exact J;intro b;skip)|(apply Aq;exact J;exact has4;exact hsane;skip)|(apply Aq;exact J;exact has5;exact hfew;skip)))|(apply Aj;exact J;all_goals (intro hc;try simp only [hcS,reduceCtorEq] at hc;try (exfalso;omega))))
  all_goals first
   | (exact Cb rfl rfl rfl rfl)
   | (exfalso;simp at hc;done)
 rw [decide_eq_true hF] at hfew
 have hfa:Co h A n l:=⟨hx.row,hx.fat,by have:=hF.2;omega⟩
 have hlen:=hfa.row.len
 have hn14:=hF.2
 have hnc:=hx.cap
 by_cases hn0:n=0
 · clear hF hfa hx
   repeat' (first|apply Ac|apply Au|apply Aa|apply Ab|(apply Ad;(iterate 3 exact J))|(apply Af;(iterate 3 exact J);(first|(apply Ao;exact J;intro b;skip)|(apply Aq;exact J;exact has4;exact hsane;skip)|(apply Aq;exact J;exact has5;exact hfew;skip)))|(apply Aj;exact J;all_goals (intro hc;try simp only [hcS,reduceCtorEq] at hc;try (exfalso;omega))))
   all_goals first
    | (exfalso;simp at hc;done)
    | (exfalso;omega)
    | (exact Cb rfl rfl rfl rfl)
 have hn6:n≤65536:=by omega
 have hfat:=hfa.fat
 have hrow:=hfa.row
 have h32:Kd (fcs l):=Gx hfa
 have hlow:=fun i (hi:i≤n)=>hrow.low (lo:=i) (c:=c) hi hnc
 have hhigh:=fun i (hi:i≤n)=>hrow.high (hi:=i) (c:=c) hi hnc
 have hadr:=fun i (hi:i<n)=>hrow.addrD hi
 have hcel:=fun i (hi:i<n)=>hrow.cellsD p0 hi
 have hv1:=fun h' (hl:Le h h')=>I5a h' (hG.le hl) A n c l (hfa.le hl) hn6 hcc s co t
 have hal:=fun h' (hl:Le h h')=>All_c h' (hG.le hl) A n c l (hfa.le hl) hn6 s co
 have hof:=fun h' (hl:Le h h') g=>Of12_c h' (hG.le hl) A n c l (hfa.le hl) hn6 g
 have hva:=fun b hm=>view_all (a:=l) (b:=b) h32 hm s co t
 have hbo:Ms (Ma (fcs l) s co t).1∨(Ma (fcs l) s co t).1.rs=[]:=by
  by_cases q:(Ma (fcs l) s co t).2=0
  · exact .inl ((Qj h32).2 q).1
  · exact .inr ((Qj h32).1 q)
 obtain ⟨q1,q2⟩:=Qj (L:=fcs l) h32 (s:=s) (c:=co) (t:=t)
 have hall:=Kta h32 s co
 have hfl:(fcs l).length≤14:=by unfold fcs;rw [List.length_map];omega
 generalize Ma (fcs l) s co t=V at *
 generalize C4a (fcs l) s co=AL at *
 generalize ofF (fcs l)=F at *
 obtain ⟨⟨vt,vr⟩,ve⟩:=V
 dsimp only at q1 q2 hv1 hbo
 have hTm:∀ i,i<n→∀ p,p∈l.drop i++l.take i++[l.getD i p0]↔p∈l:=fun i hi p=>by
  have hmi:=mem7 p0 (show i<l.length by omega)
  rw [List.mem_append,List.mem_append,List.mem_singleton]
  constructor
  · rintro ((h1|h1)|rfl)
    · exact List.mem_of_mem_drop h1
    · exact List.mem_of_mem_take h1
    · exact hmi
  · intro h1
    rw [← List.take_append_drop i l,List.mem_append] at h1
    exact .inl (h1.symm.imp (fun w=>by simpa using w) (fun w=>by simpa using w))
 have hTl:∀ i,i<n→(l.drop i++l.take i++[l.getD i p0]).length=0+(n-i)+i+1:=fun i hi=>by simp;omega
 have hv2:∀ i,i<n→∀ h' (hl:Le h h') A' c',Cc Bx 82 h' A' (0+(n-i)+i+1) (l.drop i++l.take i++[l.getD i p0])→Res Tryz.prog 6 #[.slice A' (0+(n-i)+i+1) c',.int .i64 s,.int .i64 co,Gca t] h' (fun u h2=>Yv h2 u ⟨vt,vr⟩ ve):=fun i hi h' hl A' c' hs=>by
  have hfT:Co h' A' (0+(n-i)+i+1) (l.drop i++l.take i++[l.getD i p0]):=⟨hs,fun p hp=>by
   have:=hfat p ((hTm i hi p).1 hp)
   exact ⟨this.1.le hl,this.2⟩,by omega⟩
  have:=I5a h' (hG.le hl) A' _ c' _ hfT (by omega) (fun p hp=>hcc p ((hTm i hi p).1 hp)) s co t
  rw [hva _ (hTm i hi)] at this
  exact this
 clear hF hfa hx h32 hTm hva hfat hrow hcc
 repeat' (first|apply Ac|apply Au|apply Aa|apply Ab|(refine GO_hold (n:=7) ?_)|(apply Af;(iterate 3 exact J);apply Ao (e:=24);exact J;intro bt)|(apply Af;(iterate 3 exact J);apply Ag (e:=30);exact J;intro b8)|(apply GOl_convU;(iterate 3 exact J);omega;exact J;exact J)|(apply GOl_conv;(iterate 3 exact J);omega;exact J;exact J)|(apply GOl_remU;(iterate 3 exact J);omega;exact J;exact J;intro i hi)|(apply Ad;(iterate 3 exact J))|(apply Ai;exact J;exact Av rfl QM rfl;exact J;exact J)|(apply Af;(iterate 3 exact J);(first|(apply Ah;(iterate 3 exact J);exact QR;(iterate 3 exact J);skip)|(apply Aq;exact J;exact has4;exact hsane;skip)|(apply Aq;exact J;exact has5;exact hfew;skip)|(apply Ay;exact J;exact has6;exact hv1 _ QL;rintro v1 h1 hle1 ⟨s1,l1,rfl,hb1⟩;skip)))|(apply Aj;exact J;all_goals (intro hc;try simp only [hcS,reduceCtorEq] at hc;try (exfalso;omega))))
 all_goals (try (exfalso;simp at hc;done))
 all_goals (try (exfalso;omega))
 have hin:i<n:=by omega
 have hi0:=hadr i hin
 have ci0:=(hcel i hin).le hle1
 have hlow:=hlow i (by omega)
 have hhigh:=hhigh i (by omega)
 have hTl:=hTl i hin
 have hv2:=hv2 i hin
 clear hsane hfew hv1 hadr hcel
 refine unhold ?_
 refine GO_cutR2 (n:=7) (α:=Sli×List RdS×Nat×Ro) (fun a=>[(11,Rf b8),(12,.int .i64 ve),(14,Rf a.2.2.1),(15,.int .i64 ve),(0,.slice A n c),(1,.int .i64 s),(2,.int .i64 co)]) (fun a=>[Blk a.2.2.1 30 (brC a.1 vt),Blk b8 30 (brC s1 vt)]) (fun a=>a.2.2.2) (fun a=>Le h1 a.2.2.2∧C2a a.2.2.2 a.1 a.2.1 ⟨vt,vr⟩) ?Ara ?main
 case main =>
  intro K' hk'
  generalize l.getD i p0=xi at *
  repeat' (first|(apply Bf (n:=7) [0,1,2,3,4,5,6,7,8,9,10,11,12,13,14,15,16,17,18,19,20,22,23,21,24] [(1,0),(2,0),(3,0),(5,0),(6,0),(7,0),(9,0),(10,0),(11,0),(12,0),(15,0),(16,0),(17,0),(0,3),(163,13),(56,22),(4,3),(87,13),(44,22),(8,3),(33,13),(33,22),(13,2),(23,22),(14,2),(14,22),(18,2),(6,22),(19,0),(20,0),(21,0),(22,1),(23,1),(24,0),(18,1),(19,0),(20,0),(21,0),(23,1),(24,0),(14,1),(18,1),(19,0),(20,0),(21,0),(23,1),(24,0),(13,1),(14,1),(18,1),(19,0),(20,0),(21,0),(23,1),(24,0),(8,2),(23,22),(14,2),(14,22),(18,2),(6,22),(19,0),(20,0),(21,0),(22,1),(23,1),(24,0),(18,1),(19,0),(20,0),(21,0),(23,1),(24,0),(14,1),(18,1),(19,0),(20,0),(21,0),(23,1),(24,0),(8,1),(14,1),(18,1),(19,0),(20,0),(21,0),(23,1),(24,0),(8,2),(8,13),(13,1),(14,1),(18,1),(19,0),(20,0),(21,0),(23,1),(24,0),(8,1),(14,1),(18,1),(19,0),(20,0),(21,0),(23,1),(24,0),(4,2),(33,22),(8,2),(23,22),(14,2),(14,22),(18,2),(6,22),(19,0),(20,0),(21,0),(22,1),(23,1),(24,0),(18,1),(19,0),(20,0),(21,0),(23,1),(24,0),(14,1),(18,1),(19,0),(20,0),(21,0),(23,1),(24,0),(8,1),(14,1),(18,1),(19,0),(20,0),(21,0),(23,1),(24,0),(4,1),(8,1),(14,1),(18,1),(19,0),(20,0),(21,0),(23,1),(24,0),(4,2),(18,13),(8,2),(8,13),(13,1),(14,1),(18,1),(19,0),(20,0),(21,0),(23,1),(24,0),(8,1),(14,1),(18,1),(19,0),(20,0),(21,0),(23,1),(24,0),(4,1),(8,1),(14,1),(18,1),(19,0),(20,0),(21,0),(23,1),(24,0),(0,2),(44,22),(4,2),(33,22),(8,2),(23,22),(14,2),(14,22),(18,2),(6,22),(19,0),(20,0),(21,0),(22,1),(23,1),(24,0),(18,1),(19,0),(20,0),(21,0),(23,1),(24,0),(14,1),(18,1),(19,0),(20,0),(21,0),(23,1),(24,0),(8,1),(14,1),(18,1),(19,0),(20,0),(21,0),(23,1),(24,0),(4,1),(8,1),(14,1),(18,1),(19,0),(20,0),(21,0),(23,1),(24,0),(0,1),(4,1),(8,1),(14,1),(18,1),(19,0),(20,0),(21,0),(23,1),(24,0),(0,2),(29,13),(4,2),(18,13),(8,2),(8,13),(13,1),(14,1),(18,1),(19,0),(20,0),(21,0),(23,1),(24,0),(8,1),(14,1),(18,1),(19,0),(20,0),(21,0),(23,1),(24,0),(4,1),(8,1),(14,1),(18,1),(19,0),(20,0),(21,0),(23,1),(24,0),(0,1),(4,1),(8,1),(14,1),(18,1),(19,0),(20,0),(21,0),(23,1),(24,0)];kernel_rfl)|(apply Ce;exact J;kernel_rfl;(iterate 3 exact J))|(apply Bj;exact J;kernel_rfl;(iterate 3 exact J);exact QM;exact J;exact J)|(apply De;exact J;kernel_rfl;exact J;exact J;(first|(apply Iw (lo:=i) (n:=n) (c:=c);(iterate 6 exact J);omega)|(apply Mp (hi:=i) (n:=n) (c:=c);(iterate 6 exact J);omega;exact hnc)|(apply Be (j:=i);(iterate 5 exact J);exact hi0;(with_reducible exact J);omega)|(apply Ar;exact J;exact Bh rfl (ci0.le QL) rfl));exact QA)|(apply Br;exact J;kernel_rfl;(iterate 3 exact J);(first|(apply Ah;(iterate 3 exact J);exact QR;(iterate 3 exact J);refine ⟨Le.refl _,QN,?_⟩)|(apply Ag;exact J;intro b;refine ⟨Le.refl _,QN,?_⟩)|(apply Cz (n:=0);(iterate 3 exact J);exact List.cons_ne_nil _ _;(iterate 6 exact J);intro b1;refine ⟨Le.refl _,QN,?_⟩)|(apply Bk (enc:=Bx) (xs:=[]) (ys:=l.drop i);(iterate 7 exact J);exact (hlow.le QL);exact Bv;exact Ft;intro v1;exact QR;omega;exact J;intro A1 c1;refine ⟨Le.refl _,QN,?_⟩)|(apply Bk (enc:=Bx) (xs:=l.drop i) (ys:=l.take i);(iterate 7 exact J);exact (hhigh.le QL);exact Bv;exact Ft;intro v1;exact QR;omega;exact J;intro A2 c2;refine ⟨Le.refl _,QN,?_⟩)|(apply Bc (enc:=Bx) (n:=1) [xi];(iterate 3 exact J);exact List.cons_ne_nil _ _;(iterate 4 exact J);exact Bv;exact J;exact J;intro bz hz1 hlez hs1';refine ⟨hlez,QN,?_⟩)|(apply Bk (enc:=Bx) (xs:=l.drop i++l.take i) (ys:=[xi]);(iterate 7 exact J);exact (hs1'.le QL);exact Bv;exact Ft;intro v1;exact QR;omega;exact J;intro A3 c3;refine ⟨Le.refl _,QN,?_⟩)|(refine Su (enc:=Bx) (e:=57) (sz:=82) (n:=0+(n-i)+i+1) (xs:=l.drop i++l.take i++[xi]) Bv hTl QK ?_;intro A4 c4 h4 hle4 e4 hnc4 hsT;injection e4 with e41 _ e43;subst e41;subst e43;apply Ay;exact J;exact has6;exact hv2 _ QL _ _ hsT;rintro v5 h5 hle5 ⟨s2,l2,rfl,hb2⟩;refine ⟨hle4.trans hle5,QN,?_⟩)))|(apply Ia;kernel_rfl;exact J;exact J)|(apply Cj;(iterate 4 exact J);(first|(apply Ag;exact J;intro b;refine ⟨Le.refl _,QN,?_⟩)|(apply Cz (n:=0);(iterate 3 exact J);exact List.cons_ne_nil _ _;(iterate 6 exact J);intro b1;refine ⟨Le.refl _,QN,?_⟩)|(apply Bk (enc:=Bx) (xs:=[]) (ys:=l.drop i);(iterate 7 exact J);exact (hlow.le QL);exact Bv;exact Ft;intro v1;exact QR;omega;exact J;intro A1 c1;refine ⟨Le.refl _,QN,?_⟩)|(apply Bk (enc:=Bx) (xs:=l.drop i) (ys:=l.take i);(iterate 7 exact J);exact (hhigh.le QL);exact Bv;exact Ft;intro v1;exact QR;omega;exact J;intro A2 c2;refine ⟨Le.refl _,QN,?_⟩)|(apply Bc (enc:=Bx) (n:=1) [xi];(iterate 3 exact J);exact List.cons_ne_nil _ _;(iterate 4 exact J);exact Bv;exact J;exact J;intro bz hz1 hlez hs1';refine ⟨hlez,QN,?_⟩)|(apply Bk (enc:=Bx) (xs:=l.drop i++l.take i) (ys:=[xi]);(iterate 7 exact J);exact (hs1'.le QL);exact Bv;exact Ft;intro v1;exact QR;omega;exact J;intro A3 c3;refine ⟨Le.refl _,QN,?_⟩)|(refine Su (enc:=Bx) (e:=57) (sz:=82) (n:=0+(n-i)+i+1) (xs:=l.drop i++l.take i++[xi]) Bv hTl QK ?_;intro A4 c4 h4 hle4 e4 hnc4 hsT;injection e4 with e41 _ e43;subst e41;subst e43;apply Ay;exact J;exact has6;exact hv2 _ QL _ _ hsT;rintro v5 h5 hle5 ⟨s2,l2,rfl,hb2⟩;refine ⟨hle4.trans hle5,QN,?_⟩)))|(apply Bm;kernel_rfl;exact J)|(apply GP_three;kernel_rfl;(iterate 4 exact J)))
  all_goals first
   | (have h9:=hk' (s2,l2,b,h5) ⟨QL,hb2⟩
      dsimp only at h9
      refine Bw QS QT (h9))
 case Ara =>
 rintro ⟨s2,l2,b9,h5⟩ ⟨hle15,hb2⟩
 dsimp only at hle15 hb2 ⊢
 have hl5:Le h h5:=QL
 have hb15:=hb1.le hle15
 have hsm:=brSm_out hb15 hbo
 have hsame:=same21_c h5 s1 s2 l1 l2 ⟨vt,vr⟩ hb15 hb2 hsm
 by_cases hve:ve=0
 case' neg =>
  have hvr:=q1 hve
  have hn0':s1.n=0:=by
   have h1:=hb15.is
   rw [show (⟨vt,vr⟩:FBr).rs=[] from hvr] at h1
   have h2:=Fh l1
   rw [← h1] at h2
   have h3:=hb15.rs.row.len
   rw [← h2] at h3
   exact h3.symm
  clear q1 q2 hv2 hal hof hlow hhigh hTl
  repeat' (first|apply Ac|apply Au|apply Aa|apply Ab|(apply Ad;(iterate 3 exact J))|(apply Ai;exact J;exact Av rfl QM rfl;exact J;exact J)|(apply Af;(iterate 3 exact J);(first|(apply Aq;exact J;exact has7;exact hsame;skip)))|(apply Aj;exact J;all_goals (intro hc;try simp only [hcS,reduceCtorEq] at hc;try (exfalso;omega)))|(apply Ba;exact J;exact J;all_goals (intro hc;try simp only [hcS,reduceCtorEq] at hc;try (exfalso;omega))))
  all_goals first
   | (exfalso;omega)
   | (exfalso;simp at hc;done)
   | (exact Cb rfl rfl rfl (congrArg Value.bool ((Kt _ _).mpr (by omega))))
 subst hve
 obtain ⟨_,q3,q4⟩:=q2 rfl
 have hvr:vr=rounds l1:=hb15.is
 subst hvr
 have hrow1:=hb15.rs.row
 have hlen1:=hrow1.len
 have hns:=hsm.few
 clear q1 q2 hv2 hlow hhigh hTl hbo
 repeat' (first|apply Ac|apply Au|apply Ak|apply Aa|apply Ab|(apply Ad;(iterate 3 exact J))|(apply Ai;exact J;exact Av rfl QM rfl;exact J;exact J)|(apply Af;(iterate 3 exact J);(first|(apply Aq;exact J;exact has7;exact hsame;skip)))|(apply Aj;exact J;all_goals (intro hc;try simp only [hcS,reduceCtorEq] at hc;try (exfalso;omega)))|(apply Ba;exact J;exact J;all_goals (intro hc;try simp only [hcS,reduceCtorEq] at hc;try (exfalso;omega))))
 all_goals (try (exfalso;simp at hc;done))
 all_goals (try (exfalso;omega))
 clear hsame hb2
 refine Bt (X:=Nat×Ro) (fun y=>y.1≤s1.n∧Le h5 y.2) (fun y=>s1.n-y.1)
  (fun y=>[(16,.int .i64 y.1),(11,Rf b8),(0,.slice A n c),(1,.int .i64 s),(2,.int .i64 co)])
  (fun _=>[Blk b8 30 (brC s1 vt)]) (fun y=>y.2) (0,h5) ⟨by dsimp only;omega,Le.refl _⟩ QS QT rfl ?_
 rintro ⟨j,h6⟩ ⟨hj,hle6⟩ ih
 dsimp only at hj hle6 ih ⊢
 have hb6:=hb15.le hle6
 by_cases hjn:j<s1.n
 case' pos =>
  have ra:=hrow1.addrD hjn
  have rc:At h6 ((addrD s1.A).add (j * ty59.size)) (Jz (l1.getD j rd0)):=hb6.rs.row.cellsD rd0 hjn
  have hrm:=mem7 rd0 (show j<l1.length by omega)
  have hri:=hb6.rs.each _ hrm
  have hrn:=hsm.each _ hrm
  have hrl:=hsm.legs _ hrm
  have hlm:=fun k (hk:k<(l1.getD j rd0).2.length) m hm=>q3 _ (leg_mem (l:=l1) (i:=j) (j:=k) (k:=m) (by omega) hk hm (t:=vt))
  generalize l1.getD j rd0=R at *
  have hRl:=hri.1.row.len
  have hRrow:=hri.1.row
  have ih1:=fun h' (hl:Le h6 h')=>ih (j+1,h') ⟨by dsimp only;omega,hle6.trans hl⟩ (by dsimp only;omega)
  dsimp only at ih1
  clear ih q3 q4
  repeat' (first|apply Ac|apply Au|apply Ak|apply Aa|apply Ab|(apply Ad;(iterate 3 exact J))|(apply Ai;exact J;exact Av rfl QM rfl;exact J;exact J)|(apply Aj;exact J;all_goals (intro hc;try simp only [hcS,reduceCtorEq] at hc;try (exfalso;omega))))
  all_goals (try (exfalso;omega))
  refine Bt (X:=Nat×Ro) (fun y=>y.1≤R.1.n∧Le h6 y.2) (fun y=>R.1.n-y.1)
   (fun y=>[(17,.int .i64 y.1),(16,.int .i64 j),(11,Rf b8),(0,.slice A n c),(1,.int .i64 s),(2,.int .i64 co)])
   (fun _=>[Blk b8 30 (brC s1 vt)]) (fun y=>y.2) (0,h6) ⟨by dsimp only;omega,Le.refl _⟩ QS QT rfl ?_
  rintro ⟨k,h7⟩ ⟨hk,hle7⟩ ihk
  dsimp only at hk hle7 ihk ⊢
  have rc7:=rc.le hle7
  have hRrow7:=hRrow.le hle7
  by_cases hkn:k<R.1.n
  case' pos =>
   have a1:=hRrow7.addrD hkn
   have c7:At h7 ((addrD R.1.A).add (k * Lea.size)) (Hb (R.2.getD k du0)):=hRrow7.cellsD du0 hkn
   have hm:=mem7 du0 (show k<R.2.length by omega)
   have hda:=(hri.1.each _ hm).le hle7
   have hdn:=hrl _ hm
   have hlm:=hlm k (by omega)
   generalize R.2.getD k du0=p at *
   have hpl:=hda.1.len
   have hprow:=hda.1
   have ihk1:=fun h' (hl:Le h7 h')=>ihk (k+1,h') ⟨by dsimp only;omega,hle7.trans hl⟩ (by dsimp only;omega)
   dsimp only at ihk1
   clear ihk ih1
   repeat' (first|apply Ac|apply Au|apply Ak|apply Aa|apply Ab|(apply Ad;(iterate 3 exact J))|(apply Ai;exact J;exact Av rfl QM rfl;exact J;exact J)|(apply Bd;exact J;exact J;(first|(apply Be (j:=j) (n:=s1.n);(iterate 5 exact J);exact ra;(with_reducible exact J);omega)|(apply Ar;exact J;exact Bh rfl rc7 rfl));exact QA)|(apply Aj;exact J;all_goals (intro hc;try simp only [hcS,reduceCtorEq] at hc;try (exfalso;omega))))
   all_goals (try (exfalso;omega))
   refine Bt (X:=Nat×Ro) (fun y=>y.1≤p.1.n∧Le h7 y.2) (fun y=>p.1.n-y.1)
    (fun y=>[(18,.int .i64 y.1),(17,.int .i64 k),(16,.int .i64 j),(11,Rf b8),(0,.slice A n c),(1,.int .i64 s),(2,.int .i64 co)])
    (fun _=>[Blk b8 30 (brC s1 vt)]) (fun y=>y.2) (0,h7) ⟨by dsimp only;omega,Le.refl _⟩ QS QT rfl ?_
   rintro ⟨m,h8⟩ ⟨hm8,hle8⟩ ihm
   dsimp only at hm8 hle8 ihm ⊢
   have rc8:=rc7.le hle8
   have c8:=c7.le hle8
   by_cases hmn:m<p.1.n
   case' pos =>
    have a2:=(hprow.le hle8).addrD hmn
    have c9:At h8 ((addrD p.1.A).add (m * I6a.size)) (Jb (p.2.ls.getD m Ep)):=(hprow.le hle8).cellsD Ep hmn
    have hlg:=hlm m (by omega)
    have hl8:Le h h8:=QL
    generalize p.2.ls.getD m Ep=x at *
    obtain ⟨w1,w2,w3⟩:=hlg
    have hofx:=fun h' (hl:Le h8 h')=>hof h' (hl8.trans hl) x.g
    rw [w1] at hofx
    simp only [resO,Option.getD_some,Option.isSome_some] at hofx
    have h9:=fun h' (hl:Le h8 h')=>ihm (m+1,h') ⟨by dsimp only;omega,hle8.trans hl⟩ (by dsimp only;omega)
    dsimp only at h9
    clear ihm ihk1 hof hal hlm w1
    repeat' (first|apply Ac|apply Au|apply Ap|apply Ak|apply Aa|apply Ab|(apply Af;(iterate 3 exact J);apply Ag (e:=64);exact J;intro bx)|(apply Bg;(iterate 3 exact J);omega;exact J;exact J)|(apply Ad;(iterate 3 exact J))|(apply Ai;exact J;exact Av rfl QM rfl;exact J;exact J)|(apply Bd;exact J;exact J;(first|(apply Be (j:=j) (n:=s1.n);(iterate 5 exact J);exact ra;(with_reducible exact J);omega)|(apply Be (j:=k) (n:=R.1.n);(iterate 5 exact J);exact a1;(with_reducible exact J);omega)|(apply Be (j:=m) (n:=p.1.n);(iterate 5 exact J);exact a2;(with_reducible exact J);omega)|(apply Ar;exact J;first|exact Bh rfl rc8 rfl|exact Dc rfl c8 rfl|exact Bh rfl c9 rfl)|(apply Iqa;(iterate 3 exact J);kernel_rfl;kernel_rfl));exact QA)|(apply Af;(iterate 3 exact J);(first|(apply Ah;(iterate 3 exact J);exact QR;(iterate 3 exact J);skip)|(apply Ay;exact J;exact has8;exact hofx _ QL;rintro v9 h10 hle10 rfl;skip)))|(apply Aj;exact J;all_goals (intro hc;try simp only [hcS,reduceCtorEq] at hc;try (exfalso;omega)))|(apply Ba;exact J;exact J;all_goals (intro hc;try simp only [hcS,reduceCtorEq] at hc;try (exfalso;omega))))
    all_goals first
     | (exfalso;omega)
     | (exfalso;simp at hc;done)
     | (have h11:=h9 h10 hle10
        refine Bw QS QT (h11))
   have h9:=ihk1 h8 hle8
   clear ihm ihk1
   repeat' (first|apply Ac|apply Ap|apply Aa|apply Ab|(apply Bn;exact J)|(apply Bg;(iterate 3 exact J);omega;exact J;exact J)|(apply Ad;(iterate 3 exact J))|(apply Ai;exact J;exact Av rfl QM rfl;exact J;exact J)|(apply Bd;exact J;exact J;(first|(apply Be (j:=j) (n:=s1.n);(iterate 5 exact J);exact ra;(with_reducible exact J);omega)|(apply Be (j:=k) (n:=R.1.n);(iterate 5 exact J);exact a1;(with_reducible exact J);omega)|(apply Ar;exact J;first|exact Bh rfl rc8 rfl|exact Dc rfl c8 rfl));exact QA)|(apply Aj;exact J;all_goals (intro hc;try simp only [hcS,reduceCtorEq] at hc;try (exfalso;omega))))
   all_goals first
    | (exfalso;omega)
    | (refine Bw QS QT (h9))
  have h9:=ih1 h7 hle7
  clear ihk ih1
  repeat' (first|apply Ac|apply Ap|apply Aa|apply Ab|(apply Bn;exact J)|(apply Bg;(iterate 3 exact J);omega;exact J;exact J)|(apply Ad;(iterate 3 exact J))|(apply Ai;exact J;exact Av rfl QM rfl;exact J;exact J)|(apply Bd;exact J;exact J;(first|(apply Be (j:=j) (n:=s1.n);(iterate 5 exact J);exact ra;(with_reducible exact J);omega)|(apply Ar;exact J;exact Bh rfl rc7 rfl));exact QA)|(apply Aj;exact J;all_goals (intro hc;try simp only [hcS,reduceCtorEq] at hc;try (exfalso;omega))))
  all_goals first
   | (exfalso;omega)
   | (refine Bw QS QT (h9))
 clear ih hof q3
 have hl6:Le h h6:=QL
 have hal:=fun h' (hl:Le h6 h')=>hal h' (hl6.trans hl)
 repeat' (first|apply Ac|apply Ak|apply Aa|apply Ab|(apply Bn;exact J)|(apply Ad;(iterate 3 exact J))|(apply Ai;exact J;exact Av rfl QM rfl;exact J;exact J)|(apply Af;(iterate 3 exact J);(first|(apply Ay;exact J;exact has9;exact hal _ QL;rintro v7 h7 hle7 ⟨A7,c7,rfl,hnc7,hs7⟩;skip)))|(apply Aj;exact J;all_goals (intro hc;try simp only [hcS,reduceCtorEq] at hc;try (exfalso;omega))))
 all_goals (try (exfalso;omega))
 have hb7:=hb6.le hle7
 clear hal
 refine Bt (X:=Nat×Ro) (fun y=>y.1≤AL.length∧Le h7 y.2) (fun y=>AL.length-y.1)
  (fun y=>[(23,.int .i64 y.1),(22,.slice A7 AL.length c7),(11,Rf b8)])
  (fun _=>[Blk b8 30 (brC s1 vt)]) (fun y=>y.2) (0,h7) ⟨by dsimp only;omega,Le.refl _⟩ QS QT rfl ?_
 rintro ⟨m,h8⟩ ⟨hm,hle8⟩ ih
 dsimp only at hm hle8 ih ⊢
 by_cases hmn:m<AL.length
 · have a2:=(hs7.le hle8).addrD hmn
   have c9:At h8 ((addrD A7).add (m * I6a.size)) (Jb (AL.getD m Ep)):=(hs7.le hle8).cellsD Ep hmn
   have hne:=q4 _ (mem7 Ep hmn)
   have hb8:=hb7.le hle8
   have hent:=fun h' (hl:Le h8 h')=>Xx h' s1 l1 vt (hb8.rs.le hl) hb8.nc hsm (AL.getD m Ep)
   generalize AL.getD m Ep=x at *
   have h9:=fun h' (hl:Le h8 h')=>ih (m+1,h') ⟨by dsimp only;omega,hle8.trans hl⟩ (by dsimp only;omega)
   dsimp only at h9
   generalize Cw ⟨vt,rounds l1⟩ x=E at *
   obtain ⟨y,e⟩:=E
   dsimp only at hne hent
   clear ih q4
   repeat' (first|apply Ac|apply Au|apply Ap|apply Ak|apply Aa|apply Ab|(apply Bg;(iterate 3 exact J);omega;exact J;exact J)|(apply Ad;(iterate 3 exact J))|(apply Bf (n:=29) [0,1,2,3,4,5,6,7,9,10,8,11] [(0,0),(1,0),(2,0),(3,0),(4,0),(5,2),(6,9),(6,0),(7,0),(8,0),(9,1),(10,1),(11,0),(5,1),(6,0),(7,0),(8,0),(10,1),(11,0)];kernel_rfl)|(apply Ce;exact J;kernel_rfl;(iterate 3 exact J))|(apply Bj;exact J;kernel_rfl;(iterate 3 exact J);exact QM;exact J;exact J)|(apply De;exact J;kernel_rfl;exact J;exact J;(first|(apply Be (j:=m) (n:=AL.length);(iterate 5 exact J);exact a2;(with_reducible exact J);omega)|(apply Ar;exact J;exact Bh rfl (c9.le QL) rfl));exact QA)|(apply Br;exact J;kernel_rfl;(iterate 3 exact J);(first|(apply Ah;(iterate 3 exact J);exact QR;(iterate 3 exact J);refine ⟨Le.refl _,QN,?_⟩)|(apply Ag;exact J;intro b;refine ⟨Le.refl _,QN,?_⟩)|(apply Ay;exact J;exact Hha;exact hent _ QL;rintro v9 h10 hle10 ⟨s9,l9,rfl,hb9⟩;refine ⟨hle10,QN,?_⟩)))|(apply Ia;kernel_rfl;exact J;exact J)|(apply Cj;(iterate 4 exact J);(first|(apply Ag;exact J;intro b;refine ⟨Le.refl _,QN,?_⟩)|(apply Ay;exact J;exact Hha;exact hent _ QL;rintro v9 h10 hle10 ⟨s9,l9,rfl,hb9⟩;refine ⟨hle10,QN,?_⟩)))|(apply Bm;kernel_rfl;exact J)|(apply Aj;exact J;all_goals (intro hc;try simp only [hcS,reduceCtorEq] at hc;try (exfalso;omega))))
   all_goals first
    | (exfalso;omega)
    | (exfalso;simp at hc;done)
    | (have h11:=h9 h10 hle10
       refine Bw QS QT (h11))
 · clear ih
   repeat' (first|apply Ac|apply Aa|apply Ab|(apply Bn;exact J)|(apply Ad;(iterate 3 exact J))|(apply Aj;exact J;all_goals (intro hc;try simp only [hcS,reduceCtorEq] at hc;try (exfalso;omega))))
   all_goals first
    | (exfalso;omega)
    | (exact Cb rfl rfl rfl rfl)
end Go.Hw

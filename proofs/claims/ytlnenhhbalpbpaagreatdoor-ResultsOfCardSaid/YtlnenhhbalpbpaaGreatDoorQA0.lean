import Derived.Test.YtlnenhhbalpbpaaGreatDoorBA
import Derived.Test.YtlnenhhbalpbpaaGreatDoorGA
import Derived.Test.YtlnenhhbalpbpaaGreatDoorHB
import Derived.Test.YtlnenhhbalpbpaaGreatDoorPA
import Derived.Test.YtlnenhhbalpbpaaGreatDoorPB
import Derived.Test.YtlnenhhbalpbpaaGreatDoorSB
import Derived.Test.YtlnenhhbalpbpaaGreatDoorEB
import Derived.Test.YtlnenhhbalpbpaaGreatDoorFH
set_option linter.all false
set_option maxRecDepth 100000
set_option maxHeartbeats 8000000
namespace Go.Hw
open Go
attribute [local irreducible] GO GOl GDp Val Fn Res Ab Du Blk Bd Cd Bf Has Yl
open Go.Proofs.Tryz (prog)
theorem sameE12_c (h:Ro)(sa sb:Fsh)(f:Fct)(hx:Ar Cu 1 h sa.cl.A sa.cl.n f.eClubs)(hn:sa.cl.n≤10000000)(hy:Ar Cu 1 h sb.cl.A sb.cl.n f.eClubs):Val prog 24 #[Ug sa f,Ug sb f] h (.bool true):=by
 refine QXV Proofs.Tryz.func24 fun w0 X0=>?_
 have hlen:=hx.len
 have hlen2:=hy.len
 have hnm:sb.cl.n=sa.cl.n:=by omega
 repeat' (first|refine QC ?_|((fail_if_success (have:=b2));apply Bo;(iterate 3 exact J);apply Dj (e:=42);exact J;intro b2)|(apply Bo;(iterate 3 exact J);apply Dj (e:=42);exact J;intro b3)|refine QD ?_|(refine QH ?_ ?_<;>intro hc<;>try omega)|refine QJ ?_|(refine QI ?_ ?_<;>intro hc<;>try omega)|fail)
 all_goals (try (exfalso;omega))
 all_goals (try (exfalso;simp at *;done))
 refine Ai (X:=Nat) (fun k=>k≤sa.cl.n) (fun k=>sa.cl.n-k) (fun k=>[(5,.int .i64 k),(2,.pointer (some ⟨b2,0,none⟩)),(3,.pointer (some ⟨b3,0,none⟩))]) (fun _=>[Blk b2 42 (Bz (Ug sa f)),Blk b3 42 (Bz (Ug sb f))]) (fun _=>h) 0 QAd QS QT rfl ?_
 rintro k hk ih
 by_cases hkn:k<sa.cl.n
 · have a1:=hx.addrD hkn
   have a2:=hy.addrD (show k<sb.cl.n by omega)
   have c1:Ab h ((addrD sa.cl.A).add (k * ty3.size)) (Cu (f.eClubs.getD k 0)):=hx.cellsD 0 hkn
   have c2:Ab h ((addrD sb.cl.A).add (k * ty3.size)) (Cu (f.eClubs.getD k 0)):=hy.cellsD 0 (show k<sb.cl.n by omega)
   have h9:=ih (k+1) QAd QAd
   generalize f.eClubs.getD k 0=x at *
   clear ih
   repeat' (first|refine QF ?_|(apply Ad (n:=6) [0,1,2,3,4,5,6,7,8,9,10] [(0,0),(1,0),(2,0),(3,0),(4,0),(5,0),(6,0),(7,0),(8,0),(9,0),(10,0)];kernel_rfl)|(apply Bk;exact J;kernel_rfl;exact J;exact J;(first|(apply Cg (j:=k) (n:=sa.cl.n);(iterate 5 exact J);exact a1;(with_reducible exact J);omega)|(apply Cg (j:=k) (n:=sb.cl.n);(iterate 5 exact J);exact a2;(with_reducible exact J);omega)|(apply Aw;exact J;first|exact Cy rfl c1 rfl|exact Cy rfl c2 rfl));exact QA)|(refine QH ?_ ?_<;>intro hc<;>try omega)|fail)
   all_goals first
    | (exfalso;omega)
    | (exfalso;simp at hc;done)
    | (refine Aj QS QT (h9))
 · clear ih
   repeat' (first|refine QF ?_|(refine QH ?_ ?_<;>intro hc<;>try omega)|fail)
   all_goals first
    | (exfalso;omega)
    | (exact Ac rfl rfl rfl rfl)
end Go.Hw
namespace Go.Hw
open Go
attribute [local irreducible] GO GOl GDp Val Fn Res Ab Du Blk Bd Cd Bf Has Yl Ik Bn Lt Kk Ew Up Db Gq ofF
open Go.Proofs.Tryz (prog)
theorem Qw (h:Ro):Val prog 22 #[] h (De gR):=by
 refine QXV Proofs.Tryz.func22 fun w0 X0=>?_
 repeat' (first|refine QFs ?_|(refine QB ?_;intro b)|(apply Ct;(iterate 3 exact J);exact QM;exact J;exact J)|fail)
 all_goals rfl
def shS (k:Nat):Fsh:=⟨Gt,Gt,⟨some ⟨k,0,none⟩,1,1⟩,Gt,Gt,Gt⟩
def fsE (k:Nat):Fsh:={ Ga with cl:=⟨some ⟨k,0,none⟩,2,2⟩ }
theorem Nr (h:Ro)(r a b:Int):Res prog 21 #[.int .i64 r,.int .i64 a,.int .i64 b] h (fun u h'=>∃ k,u=Br (shS k) (shR r a b)∧Ar Cu 1 h' (some ⟨k,0,none⟩) 1 [7]):=by
 refine QXR Proofs.Tryz.func21 fun w0 X0=>?_
 repeat' (first|refine QFs ?_|(refine QB ?_;intro b)|(refine QG ?_;first|(apply Aa;exact J;exact has22;exact Qw _)|(apply Ah (enc:=Cu) (n:=1) [7];(iterate 3 exact J);exact List.cons_ne_nil _ _;(iterate 4 exact J);exact (fun _=>rfl);exact J;exact J;intro b5 h5 hle5 hs5))|fail)
 all_goals first
  | (exact Bw rfl rfl rfl QM rfl rfl ⟨_,rfl,hs5⟩)
theorem Ph (h:Ro)(r:Fk):Val prog 23 #[.int .i64 1,Lk r] h (Br Ga (ruR r)):=by
 refine QXV Proofs.Tryz.func23 fun w0 X0=>?_
 repeat' (first|refine QFs ?_|(refine QB ?_;intro b)|(apply Ct;(iterate 3 exact J);exact QM;exact J;exact J)|fail)
 all_goals rfl
theorem C7a {h:Ro}{k:Nat}{r a b:Int}(hs:Ar Cu 1 h (some ⟨k,0,none⟩) 1 [7]):FAt h (shS k) (shR r a b)∧FSm (shR r a b) :=
 ⟨⟨⟨Ar.nil,hs,Ar.nil,Ar.nil⟩,Ar.nil,Ar.nil,rfl,Nat.le_refl _⟩,⟨Nat.zero_le _,by show ([7]:List Int).length≤_;decide,Nat.zero_le _,Nat.zero_le _⟩,Nat.zero_le _,Nat.zero_le _,Nat.zero_le _⟩
theorem ruR_at (h:Ro)(r:Fk):FAt h Ga (ruR r)∧FSm (ruR r):=⟨⟨⟨Ar.nil,Ar.nil,Ar.nil,Ar.nil⟩,Ar.nil,Ar.nil,rfl,Nat.le_refl _⟩,⟨Nat.zero_le _,Nat.zero_le _,Nat.zero_le _,Nat.zero_le _⟩,Nat.zero_le _,Nat.zero_le _,Nat.zero_le _⟩
theorem eX1_at {h:Ro}{k:Nat}(hs:Ar Cu 1 h (some ⟨k,0,none⟩) 2 [1,2]):FAt h (fsE k) eX1∧FSm eX1 :=
 ⟨⟨⟨Ar.nil,Ar.nil,Ar.nil,Ar.nil⟩,hs,Ar.nil,rfl,Nat.le_refl _⟩,⟨Nat.zero_le _,Nat.zero_le _,Nat.zero_le _,Nat.zero_le _⟩,by show ([1,2]:List Int).length≤_;decide,Nat.zero_le _,by show ([114]:List UInt8).length≤_;decide⟩
theorem eX2_at {h:Ro}{k:Nat}(hs:Ar Cu 1 h (some ⟨k,0,none⟩) 2 [3,4]):FAt h (fsE k) eX2∧FSm eX2 :=
 ⟨⟨⟨Ar.nil,Ar.nil,Ar.nil,Ar.nil⟩,hs,Ar.nil,rfl,Nat.le_refl _⟩,⟨Nat.zero_le _,Nat.zero_le _,Nat.zero_le _,Nat.zero_le _⟩,by show ([3,4]:List Int).length≤_;decide,Nat.zero_le _,by show ([114]:List UInt8).length≤_;decide⟩
def Gla (k1 k2:Nat) (a b:Int):List (Fsh×Fct):=[(shS k1,shR 0 2 1),(shS k2,shR 1 a b)]
theorem Zc {h:Ro}{A:Option Addr}{k1 k2:Nat}{a b:Int}(hs:Ar Aq 82 h A 2 (Gla k1 k2 a b))(q1:Ar Cu 1 h (some ⟨k1,0,none⟩) 1 [7])(q2:Ar Cu 1 h (some ⟨k2,0,none⟩) 1 [7]):Au h A 2 (Gla k1 k2 a b):=⟨hs,fun p hp=>by
 unfold Gla at hp
 simp only [List.mem_cons,List.not_mem_nil,or_false] at hp
 rcases hp with rfl|rfl
 · exact C7a q1
 · exact C7a q2,by omega⟩
theorem Zd {h:Ro}{A:Option Addr}{k1 k2:Nat}(hs:Ar Aq 82 h A 1 ((Gla k1 k2 2 1).take 1))(q1:Ar Cu 1 h (some ⟨k1,0,none⟩) 1 [7]):Au h A 1 [(shS k1,shR 0 2 1)]:=⟨hs,fun p hp=>by
 rw [List.mem_singleton] at hp;subst hp
 exact C7a q1,by omega⟩
def lThr (r:Fk) (k1 k2:Nat):List (Fsh×Fct):=[(Ga,ruR r)]++Gla k1 k2 2 1
theorem Sj {h:Ro}{A:Option Addr}{r:Fk}{k1 k2:Nat}(hs:Ar Aq 82 h A 3 (lThr r k1 k2))(q1:Ar Cu 1 h (some ⟨k1,0,none⟩) 1 [7])(q2:Ar Cu 1 h (some ⟨k2,0,none⟩) 1 [7]):Au h A 3 (lThr r k1 k2):=⟨hs,fun p hp=>by
 unfold lThr Gla at hp
 simp only [List.cons_append,List.nil_append,List.mem_cons,List.not_mem_nil,or_false] at hp
 rcases hp with rfl|rfl|rfl
 · exact ruR_at h r
 · exact C7a q1
 · exact C7a q2,by omega⟩
theorem Lba {h:Ro}{A:Option Addr}{k:Nat}(hs:Ar Aq 82 h A 1 [(fsE k,eX1)])(q:Ar Cu 1 h (some ⟨k,0,none⟩) 2 [1,2]):Au h A 1 [(fsE k,eX1)]:=⟨hs,fun p hp=>by
 rw [List.mem_singleton] at hp;subst hp
 exact eX1_at q,by omega⟩
theorem Lca {h:Ro}{A:Option Addr}{k1 k2:Nat}(hs:Ar Aq 82 h A 2 [(fsE k2,eX2),(fsE k1,eX1)])(q1:Ar Cu 1 h (some ⟨k1,0,none⟩) 2 [1,2])(q2:Ar Cu 1 h (some ⟨k2,0,none⟩) 2 [3,4]):Au h A 2 [(fsE k2,eX2),(fsE k1,eX1)]:=⟨hs,fun p hp=>by
 simp only [List.mem_cons,List.not_mem_nil,or_false] at hp
 rcases hp with rfl|rfl
 · exact eX2_at q2
 · exact eX1_at q1,by omega⟩
def resX (a b d:Int) (f:Bool):Ml:={ Aza with g:=gR,hg:=a,ag:=b,day:=d,forf:=f }
theorem resX_ok:B8a (resX 2 1 10 false):=⟨Xu,by unfold Bel;decide,by unfold Bel;decide,by unfold Bel;decide,by unfold Bel;decide,by unfold Bel;decide,by unfold Bel;decide,by unfold Bel;decide,fun _=>rfl,rfl⟩
theorem res0_bad:¬ B8a Aza:=fun w=>w.1.2.2.2.2 rfl
end Go.Hw
namespace Go.Hw
open Go
attribute [local irreducible] GO GOl GDp Val Fn Res Ab Du Blk Bd Cd Bf Has Yl Ik Bn Lt Kk Ew Up Db Gq ofF
open Go.Proofs.Tryz (prog)
theorem sane12_c (h:Ro)(hG:Iv h):Val prog 8 #[] h (.bool true):=by
 refine QXV Proofs.Tryz.func8 fun w0 X0=>?_
 have oTwo:∀ h',Le h h'→∀ A c k1 k2,Au h' A 2 (Gla k1 k2 2 1)→Res prog 10 #[.slice A 2 c,De gR] h' (fun u _=>u=.tuple #[Kta (resX 2 1 10 false),.bool true]):=fun h' hl A c k1 k2 hf=>by
  have:=Tx h' (hG.le hl) A 2 c _ hf QAd gR
  rw [show fcs (Gla k1 k2 2 1)=Xr from rfl,ex_twoR] at this
  exact this
 have oOne:∀ h',Le h h'→∀ A c k1,Au h' A 1 [(shS k1,shR 0 2 1)]→Res prog 10 #[.slice A 1 c,De gR] h' (fun u _=>u=.tuple #[Kta Aza,.bool false]):=fun h' hl A c k1 hf=>by
  have:=Tx h' (hG.le hl) A 1 c _ hf QAd gR
  rw [show fcs [(shS k1,shR 0 2 1)]=[shR 0 2 1] from rfl,ex_one] at this
  exact this
 have oApa:∀ h',Le h h'→∀ A c k1 k2,Au h' A 2 (Gla k1 k2 1 2)→Res prog 10 #[.slice A 2 c,De gR] h' (fun u _=>u=.tuple #[Kta Aza,.bool false]):=fun h' hl A c k1 k2 hf=>by
  have:=Tx h' (hG.le hl) A 2 c _ hf QAd gR
  rw [show fcs (Gla k1 k2 1 2)=[shR 0 2 1,shR 1 1 2] from rfl,ex_apart] at this
  exact this
 have oLos:∀ h',Le h h'→∀ A c k1 k2,Au h' A 3 (lThr rF k1 k2)→Res prog 10 #[.slice A 3 c,De gR] h' (fun u _=>u=.tuple #[Kta (resX 0 3 20 true),.bool true]):=fun h' hl A c k1 k2 hf=>by
  have:=Tx h' (hG.le hl) A 3 c _ hf QAd gR
  rw [show fcs (lThr rF k1 k2)=Li rF from rfl,ex_lost] at this
  exact this
 have oAnn:∀ h',Le h h'→∀ A c k1 k2,Au h' A 3 (lThr rA k1 k2)→Res prog 10 #[.slice A 3 c,De gR] h' (fun u _=>u=.tuple #[Kta Aza,.bool false]):=fun h' hl A c k1 k2 hf=>by
  have:=Tx h' (hG.le hl) A 3 c _ hf QAd gR
  rw [show fcs (lThr rA k1 k2)=Li rA from rfl,Gwa] at this
  exact this
 have oUnf:∀ h',Le h h'→∀ A c k1 k2,Au h' A 3 (lThr rU k1 k2)→Res prog 10 #[.slice A 3 c,De gR] h' (fun u _=>u=.tuple #[Kta (resX 3 0 10 true),.bool true]):=fun h' hl A c k1 k2 hf=>by
  have:=Tx h' (hG.le hl) A 3 c _ hf QAd gR
  rw [show fcs (lThr rU k1 k2)=Li rU from rfl,ex_unfit] at this
  exact this
 have pOne:∀ h',Le h h'→∀ A c k,Au h' A 1 [(fsE k,eX1)]→Res prog 19 #[.slice A 1 c,.int .i64 0,.int .i64 0] h' (fun u _=>∃ A' c',u=.tuple #[.slice A' 2 c',.int .i64 0]):=fun h' hl A c k hf =>
  (Open_c h' (hG.le hl) A 1 c _ hf QAd 0 0).mono fun u h2 _ ⟨A',c',e,_⟩=>by
    rw [show fcs [(fsE k,eX1)]=[eX1] from rfl,Iqa.1,Iqa.2] at e
    exact ⟨A',c',e⟩
 have pN0:∀ h',Le h h'→Res prog 19 #[.slice none 0 0,.int .i64 0,.int .i64 0] h' (fun u _=>∃ A' c',u=.tuple #[.slice A' 0 c',.int .i64 190]):=fun h' hl =>
  (Open_c h' (hG.le hl) none 0 0 [] (Au.nil h') QAd 0 0).mono fun u h2 _ ⟨A',c',e,_⟩=>by
    rw [show fcs []=[] from rfl,Dra.1,Dra.2] at e
    exact ⟨A',c',e⟩
 have pN8:∀ h',Le h h'→Res prog 19 #[.slice none 0 0,.int .i64 0,.int .i64 8] h' (fun u _=>∃ A' c',u=.tuple #[.slice A' 0 c',.int .i64 1]):=fun h' hl =>
  (Open_c h' (hG.le hl) none 0 0 [] (Au.nil h') QAd 0 8).mono fun u h2 _ ⟨A',c',e,_⟩=>by
    rw [show fcs []=[] from rfl,Dqa.1,Dqa.2] at e
    exact ⟨A',c',e⟩
 have pEnt:∀ h',Le h h'→∀ A c k1 k2,Au h' A 2 [(fsE k2,eX2),(fsE k1,eX1)]→Res prog 20 #[.slice A 2 c,.int .i64 0,.int .i64 0] h' (fun u h2=>∃ zs,u=.tuple #[Ug zs eX2,.bool true]∧Ar Cu 1 h2 zs.cl.A zs.cl.n eX2.eClubs∧zs.cl.n≤10000000):=fun h' hl A c k1 k2 hf =>
  (Xp h' (hG.le hl) A 2 c _ hf 0 0 (e:=eX2) (by rw [show fcs [(fsE k2,eX2),(fsE k1,eX1)]=[eX2,eX1] from rfl];exact ent_two)).mono fun u h2 hle ⟨zs,e,hm⟩=>by
    have hcl:Ar Cu 1 h' zs.cl.A zs.cl.n eX2.eClubs:=(hf.fat _ hm).1.cl
    have hcn:2=zs.cl.n:=hcl.len
    exact ⟨zs,e,hcl.le hle,by omega⟩
 have chk:=fun h'=>Eua h' (resX 2 1 10 false)
 rw [if_pos resX_ok] at chk
 have ch0:=fun h'=>Eua h' Aza
 rw [if_neg res0_bad] at ch0
 repeat' (first|refine QFs ?_|(refine QB ?_;intro b)|(refine QG ?_;first|(apply Aa;exact J;exact has22;exact Qw _)|((fail_if_success (have:=k1));apply Ag;exact J;exact has21;exact Nr _ 0 2 1;rintro v1 h1 hle1 ⟨k1,rfl,hs1⟩)|((fail_if_success (have:=k2));apply Ag;exact J;exact has21;exact Nr _ 1 2 1;rintro v2 h2 hle2 ⟨k2,rfl,hs2⟩)|((fail_if_success (have:=k3));apply Ag;exact J;exact has21;exact Nr _ 0 2 1;rintro v3 h3 hle3 ⟨k3,rfl,hs3⟩)|((fail_if_success (have:=k4));apply Ag;exact J;exact has21;exact Nr _ 1 1 2;rintro v4 h4 hle4 ⟨k4,rfl,hs4⟩)|(apply Ah (enc:=Aq) (n:=2) (Gla k1 k2 2 1);(iterate 3 exact J);exact List.cons_ne_nil _ _;(iterate 4 exact J);exact Bc;exact J;exact J;intro bT hT hleT hsT;(have hfT:=Zc hsT (hs1.le QAa) (hs2.le QAa)))|(apply Ah (enc:=Aq) (n:=2) (Gla k3 k4 1 2);(iterate 3 exact J);exact List.cons_ne_nil _ _;(iterate 4 exact J);exact Bc;exact J;exact J;intro bP hP hleP hsP;(have hfP:=Zc hsP (hs3.le QAa) (hs4.le QAa)))|(apply Aa;exact J;exact has23;(first|exact Ph _ rF|exact Ph _ rA|exact Ph _ rU))|(apply Ah (enc:=Aq) (n:=1) [(Ga,ruR rF)];(iterate 3 exact J);exact List.cons_ne_nil _ _;(iterate 4 exact J);exact Bc;exact J;exact J;intro bF hF hleF hsF)|(apply Ah (enc:=Aq) (n:=1) [(Ga,ruR rA)];(iterate 3 exact J);exact List.cons_ne_nil _ _;(iterate 4 exact J);exact Bc;exact J;exact J;intro bA hA hleA hsA)|(apply Ah (enc:=Aq) (n:=1) [(Ga,ruR rU)];(iterate 3 exact J);exact List.cons_ne_nil _ _;(iterate 4 exact J);exact Bc;exact J;exact J;intro bU hU hleU hsU)|(apply Ha (enc:=Aq) (n:=1) (m:=2) (cx:=1) (c:=2) (xs:=[(Ga,ruR rU)]) (ys:=Gla k1 k2 2 1);(iterate 7 exact J);exact hsU.le QAa;exact hsT.le QAa;exact J;omega;exact Bc;omega;exact J;intro AU cU hU2 hleU2 hncU hsU2;(have hfU:=Sj (r:=rU) hsU2 (hs1.le QAa) (hs2.le QAa)))|(apply Ha (enc:=Aq) (n:=1) (m:=2) (cx:=1) (c:=2) (xs:=[(Ga,ruR rA)]) (ys:=Gla k1 k2 2 1);(iterate 7 exact J);exact hsA.le QAa;exact hsT.le QAa;exact J;omega;exact Bc;omega;exact J;intro AA cA hA2 hleA2 hncA hsA2;(have hfA:=Sj (r:=rA) hsA2 (hs1.le QAa) (hs2.le QAa)))|(apply Ha (enc:=Aq) (n:=1) (m:=2) (cx:=1) (c:=2) (xs:=[(Ga,ruR rF)]) (ys:=Gla k1 k2 2 1);(iterate 7 exact J);exact hsF.le QAa;exact hsT.le QAa;exact J;omega;exact Bc;omega;exact J;intro AF cF hF2 hleF2 hncF hsF2;(have hfF:=Sj (r:=rF) hsF2 (hs1.le QAa) (hs2.le QAa)))|((fail_if_success (have:=w1));apply Ag;exact J;exact Bga;exact oTwo _ QAa _ _ k1 k2 (hfT.le QAa);rintro w1 g1 hleg1 rfl)|((fail_if_success (have:=w3));apply Ag;exact J;exact Bga;exact oApa _ QAa _ _ k3 k4 (hfP.le QAa);rintro w3 g3 hleg3 rfl)|((fail_if_success (have:=w4));apply Ag;exact J;exact Bga;exact oLos _ QAa _ _ k1 k2 (hfF.le QAa);rintro w4 g4 hleg4 rfl)|((fail_if_success (have:=w5));apply Ag;exact J;exact Bga;exact oAnn _ QAa _ _ k1 k2 (hfA.le QAa);rintro w5 g5 hleg5 rfl)|((fail_if_success (have:=w6));apply Ag;exact J;exact Bga;exact oUnf _ QAa _ _ k1 k2 (hfU.le QAa);rintro w6 g6 hleg6 rfl)|(apply Ah (enc:=Cu) (n:=2) [1,2];(iterate 3 exact J);exact List.cons_ne_nil _ _;(iterate 4 exact J);exact (fun _=>rfl);exact J;exact J;intro bE hE hleE hsE)|(apply Ah (enc:=Cu) (n:=2) [3,4];(iterate 3 exact J);exact List.cons_ne_nil _ _;(iterate 4 exact J);exact (fun _=>rfl);exact J;exact J;intro bL hL hleL hsL)|(apply Ah (enc:=Aq) (n:=1) [(fsE bE,eX1)];(iterate 3 exact J);exact List.cons_ne_nil _ _;(iterate 4 exact J);exact Bc;exact J;exact J;intro bO hO hleO hsO;(have hfO:=Lba hsO (hsE.le QAa)))|(apply Ah (enc:=Aq) (n:=2) [(fsE bL,eX2),(fsE bE,eX1)];(iterate 3 exact J);exact List.cons_ne_nil _ _;(iterate 4 exact J);exact Bc;exact J;exact J;intro bQ hQ hleQ hsQ;(have hfQ:=Lca hsQ (hsE.le QAa) (hsL.le QAa)))|(apply Ag;exact J;exact has19;(first|exact pN0 _ QAa|exact pN8 _ QAa|exact pOne _ QAa _ _ bE (hfO.le QAa));rintro x1 f1 hlef1 ⟨B1,d1,rfl⟩)|(apply Ag;exact J;exact has20;exact pEnt _ QAa _ _ bE bL (hfQ.le QAa);rintro x2 f2 hlef2 ⟨zs,rfl,hzc,hzn⟩)|(apply Aa;exact J;exact has24;exact sameE12_c _ zs (fsE bL) eX2 (hzc.le QAa) hzn (hsL.le QAa))|((fail_if_success (have:=y1));apply Ag;exact J;exact has12;exact chk _;rintro y1 e1 hlee1 rfl)|(apply Ag;exact J;exact has12;exact ch0 _;rintro y2 e2 hlee2 rfl))|(apply Ad (n:=3) [0,1,2,3,4,5,7,8,6,9] [(0,0),(1,0),(2,2),(14,7),(3,2),(6,7),(4,0),(5,0),(6,0),(7,1),(8,1),(9,0),(3,1),(4,0),(5,0),(6,0),(8,1),(9,0),(2,1),(3,1),(4,0),(5,0),(6,0),(8,1),(9,0)];kernel_rfl)|(apply Ad (n:=8) [0,1,2,3,4,5,6,7,8,9,10,11,12,13,14,15,16,17,18,19,20,21,22,23,24,25,26,27,28,29,30,31,32,33,34,35,36] [(0,0),(1,1),(2,0),(3,0),(4,0),(5,0),(6,0),(7,0),(8,0),(9,0),(10,0),(11,0),(12,0),(13,0),(14,0),(15,0),(16,1),(17,0),(18,0),(19,0),(20,0),(21,0),(22,0),(23,0),(24,0),(25,0),(26,0),(27,0),(28,0),(29,1),(30,0),(31,0),(32,0),(33,0),(34,0),(35,0),(36,0)];kernel_rfl)|(apply Bk;exact J;kernel_rfl;exact J;exact J;(first|(apply Jc (hi:=1) (n:=2) (c:=2);(iterate 6 exact J);omega;omega)|(apply OV_neqR;(iterate 3 exact J);kernel_rfl;kernel_rfl));exact QA)|(apply Ao;exact J;kernel_rfl;(iterate 3 exact J);(first|(apply Aa;exact J;exact has22;exact Qw _;refine ⟨Le.refl _,QN,?_⟩)|((fail_if_success (have:=w2));apply Ag;exact J;exact Bga;exact oOne _ QAa _ _ k1 (Zd (k2:=k2) ((hfT.row.high (hi:=1) (c:=2) QAd QAd).le QAa) (hs1.le QAa));rintro w2 g2 hleg2 rfl;refine ⟨hleg2,QN,?_⟩)))|(apply Hi;kernel_rfl;exact J;exact J)|(apply Cq;(iterate 4 exact J);(first|(apply Aa;exact J;exact has22;exact Qw _;refine ⟨Le.refl _,QN,?_⟩)|((fail_if_success (have:=w2));apply Ag;exact J;exact Bga;exact oOne _ QAa _ _ k1 (Zd (k2:=k2) ((hfT.row.high (hi:=1) (c:=2) QAd QAd).le QAa) (hs1.le QAa));rintro w2 g2 hleg2 rfl;refine ⟨hleg2,QN,?_⟩)))|(refine QH ?_ ?_<;>intro hc<;>try omega)|refine QJ ?_|(refine QI ?_ ?_<;>intro hc<;>try omega)|fail)
 all_goals first
  | (exfalso;simp at hc;done)
  | (exact Ac rfl rfl rfl rfl)
  | (exact Ac rfl rfl rfl (by simp [Fe];done))
end Go.Hw

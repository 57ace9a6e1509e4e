import Derived.Test.YtlnenhhbalpbpabGreatDoorVD
import Derived.Test.YtlnenhhbalpbpabGreatDoorXC
import Derived.Test.YtlnenhhbalpbpabGreatDoorHD
import Derived.Test.YtlnenhhbalpbpabGreatDoorFH
import Derived.Test.YtlnenhhbalpbpabGreatDoorFE
import Derived.Test.YtlnenhhbalpbpabGreatDoorBA
import Derived.Test.YtlnenhhbalpbpabGreatDoorVF
set_option linter.all false
set_option maxRecDepth 100000
set_option maxHeartbeats 8000000
namespace Go.Hw
open Go
attribute [local irreducible] GO GOl GDp Val Fn Res At Fx Blk By Dk Cl Has Yl Mn Ew Yx Vd Md Aaa Hk Kq
open Go.Proofs (Tryz.prog)
theorem Kia (h:Ro)(A:Option Addr)(n c:Nat)(l:List Fy)(hx:Cc Aoa 2 h A n l)(hn:n≤1000000):Val Tryz.prog 63 #[.slice A n c] h (.int .i64 (Kq l)):=by
 refine Az (args:=[_]) ts_ok Go.Proofs.Tryz.func63 rfl rfl fun w0 X0 => ?_
 have hlen:=hx.len
 repeat' (first|apply Ac|apply Ak|apply Aa|apply Ab|(apply Ad;(iterate 3 exact J)))
 refine Bt (X:=Nat) (fun k=>k≤n) (fun k=>n-k) (fun k=>[(7,.int .i64 k),(6,.int .i64 n),(5,.slice A n c),(2,.int .i64 (Kq (l.take k)))]) (fun _=>[]) (fun _=>h) 0 (by omega) (by rw [List.take_zero,show Kq []=0 by unfold Kq;rfl];exact QS) QT rfl ?_
 rintro k hk ih
 by_cases hkn:k<n
 · have a1:=hx.addrD hkn
   have c1:At h ((addrD A).add (k * ty197.size)) (Aoa (l.getD k Kr)):=hx.cellsD Kr hkn
   have et:=Fq Kr (xs:=l) hlen hkn
   generalize l.getD k Kr=z at *
   have h3:=ih (k+1) (by omega) (by omega)
   rw [et,Ava] at h3
   have hb:=Cfa (l.take k)
   rw [List.length_take] at hb
   generalize Kq (l.take k)=m at *
   obtain ⟨zp,zr⟩:=z
   unfold Kma at h3
   cases zr
   · rw [if_neg (by simp)] at h3
     repeat' (first|apply Ac|apply Au|apply Ap|apply Ak|apply Aa|apply Ab|(apply Af;(iterate 3 exact J);apply Ag (e:=197);exact J;intro bc)|(apply Bg;(iterate 3 exact J);omega;exact J;exact J)|(apply Ad;(iterate 3 exact J))|(apply Ai;exact J;exact Av rfl QM rfl;exact J;exact J)|(apply Bd;exact J;exact J;(first|(apply Be (j:=k);(iterate 5 exact J);exact a1;(with_reducible exact J);omega)|(apply Ar;exact J;exact Bh rfl c1 rfl));exact QA)|(apply Af;(iterate 3 exact J);(first|(apply Ah;(iterate 3 exact J);exact QR;(iterate 3 exact J);skip)))|(apply Aj;exact J;all_goals (intro hc;try simp only [hcS,reduceCtorEq] at hc;try (exfalso;omega))))
     all_goals first
      | (exfalso;omega)
      | (exfalso;simp at hc;done)
      | (refine Bw QS QT (h3))
   · rw [if_pos rfl] at h3
     repeat' (first|apply Ac|apply Au|apply Ap|apply Ak|apply Aa|apply Ab|(apply Af;(iterate 3 exact J);apply Ag (e:=197);exact J;intro bc)|(apply Bg;(iterate 3 exact J);omega;exact J;exact J)|(apply Ad;(iterate 3 exact J))|(apply Ai;exact J;exact Av rfl QM rfl;exact J;exact J)|(apply Bd;exact J;exact J;(first|(apply Be (j:=k);(iterate 5 exact J);exact a1;(with_reducible exact J);omega)|(apply Ar;exact J;exact Bh rfl c1 rfl));exact QA)|(apply Af;(iterate 3 exact J);(first|(apply Ah;(iterate 3 exact J);exact QR;(iterate 3 exact J);skip)))|(apply Aj;exact J;all_goals (intro hc;try simp only [hcS,reduceCtorEq] at hc;try (exfalso;omega))))
     all_goals first
      | (exfalso;omega)
      | (exfalso;simp at hc;done)
      | (refine Bw QS QT (h3))
 · rw [List.take_of_length_le (by omega)]
   clear ih
   repeat' (first|apply Ac|apply Aa|apply Ab|(apply Bn;exact J)|(apply Ad;(iterate 3 exact J))|(apply Aj;exact J;all_goals (intro hc;try simp only [hcS,reduceCtorEq] at hc;try (exfalso;omega)))|(apply Bb;(iterate 3 exact J)))
   all_goals first
    | (exfalso;omega)
    | rfl
theorem Fra (h:Ro)(g:Bl)(d:Int)(a b:Bool):Val Tryz.prog 58 #[Fr g,.int .i64 d,.bool a,.bool b] h (Bga (Ud g d a b)):=by
 refine Az (args:=[_,_,_,_]) ts_ok Go.Proofs.Tryz.func58 rfl rfl fun w0 X0 => ?_
 cases a
 all_goals cases b
 all_goals (repeat' (first|apply Ac|apply Au|apply Ap|apply Ak|apply Aa|apply Ab|(apply Aw;exact J;exact J)|(apply Ad;(iterate 3 exact J))|(apply Ai;exact J;exact Av rfl QM rfl;exact J;exact J)|(apply Af;(iterate 3 exact J);(first|(apply Ah;(iterate 3 exact J);exact QR;(iterate 3 exact J);skip)|(apply Ao;exact J;intro b;skip)|(apply Ag;exact J;intro b;skip)))|(apply Aj;exact J;all_goals (intro hc;try simp only [hcS,reduceCtorEq] at hc;try (exfalso;omega)))|(apply Ih;(iterate 3 exact J);exact QM;exact J;exact J)))
 all_goals first
  | rfl
  | (exfalso;simp at hc;done)
theorem eff1_c (h:Ro)(g:Bl)(r:Iz)(d:Int):Val Tryz.prog 57 #[Fr g,Ta r,.int .i64 d] h (.tuple #[Bga (Ud g d (decide (r.club=g.h)) (decide (r.club=g.a))),.bool true]):=by
 refine Az (args:=[_,_,_]) ts_ok Go.Proofs.Tryz.func57 rfl rfl fun w0 X0 => ?_
 rw [← Hm,← Hm]
 repeat' (first|apply Ac|apply Aa|apply Ab|(apply Ad;(iterate 3 exact J))|(apply Ai;exact J;exact Av rfl QM rfl;exact J;exact J)|(apply Af;(iterate 3 exact J);(first|(apply Ah;(iterate 3 exact J);exact QR;(iterate 3 exact J);skip)|(apply Ao;exact J;intro b;skip)|(apply Ag;exact J;intro b;skip)|(apply Aq;exact J;exact has58;exact Fra _ g d _ _;skip)))|(apply Ni;(iterate 3 exact J);exact QM;(iterate 3 exact J)))
 all_goals first
  | rfl
theorem eff2_c (h:Ro)(g:Bl)(r:Iz)(d:Int):Val Tryz.prog 59 #[Fr g,Ta r,.int .i64 d] h (.tuple #[Bga Ep,.bool false]):=by
 refine Az (args:=[_,_,_]) ts_ok Go.Proofs.Tryz.func59 rfl rfl fun w0 X0 => ?_
 repeat' (first|apply Ac|apply Aa|apply Ab|(apply Ad;(iterate 3 exact J))|(apply Ai;exact J;exact Av rfl QM rfl;exact J;exact J)|(apply Af;(iterate 3 exact J);(first|(apply Ah;(iterate 3 exact J);exact QR;(iterate 3 exact J);skip)|(apply Ao;exact J;intro b;skip)|(apply Ag;exact J;intro b;skip)))|(apply Ni;(iterate 3 exact J);exact QM;(iterate 3 exact J)))
 all_goals first
  | rfl
theorem eff3_c (h:Ro)(g:Bl)(r:Iz)(d:Int):Val Tryz.prog 60 #[Fr g,Ta r,.int .i64 d] h (.tuple #[Bga { Ep with g:=g,day:=d,hg:=r.hg,ag:=r.ag },.bool true]):=by
 refine Az (args:=[_,_,_]) ts_ok Go.Proofs.Tryz.func60 rfl rfl fun w0 X0 => ?_
 repeat' (first|apply Ac|apply Aa|apply Ab|(apply Ad;(iterate 3 exact J))|(apply Ai;exact J;exact Av rfl QM rfl;exact J;exact J)|(apply Af;(iterate 3 exact J);(first|(apply Ah;(iterate 3 exact J);exact QR;(iterate 3 exact J);skip)|(apply Ao;exact J;intro b;skip)|(apply Ag;exact J;intro b;skip)))|(apply Ni;(iterate 3 exact J);exact QM;(iterate 3 exact J)))
 all_goals first
  | rfl
def effV:Option Nat→Value
 | none=>.nilFunc
 | some f=>.func (.func f) #[] #[]
def effL:List (Int×Option Nat):=Jo 3 (some 60) (Jo 2 (some 59) (Jo 1 (some 57) []))
def effF (k:Int):Option Nat:=if k=1 then some 57 else if k=2 then some 59 else if k=3 then some 60 else none
theorem effL_look (k:Int):(Cv k effL).getD none=effF k:=by
 unfold effL effF
 rw [To,To,To]
 by_cases h3:(3:Int)=k
 · subst h3;simp
 · by_cases h2:(2:Int)=k
   · subst h2;simp
   · by_cases h1:(1:Int)=k
     · subst h1;simp
     · rw [if_neg h3,if_neg h2,if_neg h1,if_neg (Ne.symm h1),if_neg (Ne.symm h2),if_neg (Ne.symm h3)];rfl
theorem Yb (h:Ro):Fn Tryz.prog 22 #[] [] h fun v Es h'=>∃ bm,v=.map (some bm)∧Es=[Dk ekN effV bm effL]:=by
 refine Bo (args:=[]) ts_ok Go.Proofs.Tryz.func22 rfl rfl fun w0 X0 => ?_
 have hK:=KN
 repeat' (first|apply Ac|apply Aa|apply Ab|(apply Ad;(iterate 3 exact J))|(apply Af;(iterate 3 exact J);(first|(apply Et ekN effV;intro bm;skip)|(apply Ng (ek:=ekN) (ev:=effV) (b:=bm) hK (u:=some 57);(iterate 6 exact J);exact QR;skip)|(apply Ng (ek:=ekN) (ev:=effV) (b:=bm) hK (u:=some 59);(iterate 6 exact J);exact QR;skip)|(apply Ng (ek:=ekN) (ev:=effV) (b:=bm) hK (u:=some 60);(iterate 6 exact J);exact QR;skip))))
 all_goals first
  | (exact Ca rfl rfl rfl (by (repeat (first|exact List.Sublist.refl _|exact List.nil_sublist _|apply List.Sublist.cons_cons|apply List.Sublist.cons));done) ⟨_,rfl,rfl⟩)
theorem Lta {L:List Fct}{g:Bl}(h:(Cm L g).kind≠2):Jq L g=none:=by unfold Jq;rw [if_neg h]
theorem Gwa {L:List Fct}{g:Bl}{x:Bz}{o:List Int×List Int}(hx:Cm L g=x)(ho:Aaa L g=o)(h:x.kind=2):Jq L g=some (Bka g x o):=by unfold Jq;rw [hx,if_pos h,ho]
theorem played_c (h:Ro)(hG:Kg h)(A:Option Addr)(n c:Nat)(l:List (Fsh×Fct))(hx:Co h A n l)(hn6:n≤65536)(g:Bl):Res Tryz.prog 23 #[.slice A n c,Fr g] h (fun u _=>u=resO (Jq (fcs l) g)):=by
 refine Bq (args:=[_,_]) ts_ok Go.Proofs.Tryz.func23 rfl rfl fun w0 X0 => ?_
 have h32:=Gx hx
 have hsc:=fun h' (hl:Le h h')=>Bda h' (hG.le hl) A n c l (hx.le hl) g
 have hof:=fun h' (hl:Le h h')=>Ila h' (hG.le hl) A n c l (hx.le hl) hn6 g
 have hno:=Lta (L:=fcs l) (g:=g)
 have hyes:=fun x o=>Gwa (L:=fcs l) (g:=g) (x:=x) (o:=o)
 have hbd:=fun q=>Jba h32 (g:=g) q
 have hol:=offL_len h32 g
 rw [show Ara l=fcs l from rfl] at hsc
 generalize Cm (fcs l) g=x at *
 generalize Aaa (fcs l) g=o at *
 clear hx h32
 by_cases hk2:x.kind=2
 case' neg =>
  rw [hno hk2]
  clear hof hyes hbd hol
  repeat' (first|apply Ac|apply Aa|apply Ab|(apply Af;(iterate 3 exact J);apply Ao (e:=38);exact J;intro b3)|(apply Af;(iterate 3 exact J);apply Ag (e:=130);exact J;intro b6)|(apply Ad;(iterate 3 exact J))|(apply Ai;exact J;exact Av rfl QM rfl;exact J;exact J)|(apply Af;(iterate 3 exact J);(first|(apply Ah;(iterate 3 exact J);exact QR;(iterate 3 exact J);skip)|(apply Ag;exact J;intro b;skip)|(apply Ay;exact J;exact Hca;exact hsc _ QL;rintro w2 h2 hle2 ⟨s,rfl,hs1,hs2⟩;skip)))|(apply Aj;exact J;all_goals (intro hc;try simp only [hcS,reduceCtorEq] at hc;try (exfalso;omega))))
  all_goals first
   | (exfalso;omega)
   | (exact Ck rfl rfl rfl QM rfl rfl rfl rfl)
   | (exact Df rfl rfl rfl rfl rfl)
 rw [hyes x o rfl rfl hk2]
 obtain ⟨⟨_,_,_,_,_,_,_,hq5,hq6,_⟩,_,_⟩:=hbd hk2
 have hl5:=hq5.1
 have hl6:=hq6.1
 obtain ⟨o1,o2⟩:=o
 unfold OffOut at hof
 dsimp only at hof hol
 unfold Bka
 dsimp only
 by_cases he:o1=[]∧o2=[]
 · rw [if_pos he]
   obtain ⟨rfl,rfl⟩:=he
   clear hno hyes hbd
   repeat' (first|apply Ac|apply Au|apply Aa|apply Ab|(apply Af;(iterate 3 exact J);apply Ao (e:=38);exact J;intro b3)|(apply Af;(iterate 3 exact J);apply Ag (e:=130);exact J;intro b6)|(apply Af;(iterate 3 exact J);apply Ag (e:=43);exact J;intro b7)|(apply Bg;(iterate 3 exact J);omega;exact J;exact J)|(apply Ad;(iterate 3 exact J))|(apply Ai;exact J;exact Av rfl QM rfl;exact J;exact J)|(apply Af;(iterate 3 exact J);(first|(apply Ah;(iterate 3 exact J);exact QR;(iterate 3 exact J);skip)|(apply Ag;exact J;intro b;skip)|(apply Ay;exact J;exact Hca;exact hsc _ QL;rintro w2 h2 hle2 ⟨s,rfl,hs1,hs2⟩;(have hn1:=hs1.hc.len);(have hn2:=hs1.ac.len);skip)|(apply Ay;exact J;exact has62;exact hof _ QL;rintro v1 e1 he1 ⟨A1,d1,A2,d2,rfl,hO1,hO2⟩;skip)))|(apply Bf (n:=8) [0,1,2,3,4,5,6,7,8,9,10,11,12,13,14,15,16,17,18,19] [(0,0),(1,0),(2,0),(3,0),(4,0),(5,0),(6,0),(7,0),(8,0),(9,0),(10,0),(11,0),(12,0),(14,0),(15,0),(13,1),(16,1),(17,0),(18,1),(19,0)];kernel_rfl)|(apply Ce;exact J;kernel_rfl;(iterate 3 exact J))|(apply Bj;exact J;kernel_rfl;(iterate 3 exact J);exact QM;exact J;exact J)|(apply Br;exact J;kernel_rfl;(iterate 3 exact J);(first|(apply Ah;(iterate 3 exact J);exact QR;(iterate 3 exact J);refine ⟨Le.refl _,QN,?_⟩)|(apply Aq;exact J;exact has63;(first|exact Kia _ _ _ _ x.sh.hc (hs1.hc.le QL) (by omega)|exact Kia _ _ _ _ x.sh.ac (hs1.ac.le QL) (by omega));refine ⟨Le.refl _,QN,?_⟩)))|(apply Bm;kernel_rfl;exact J)|(apply Aj;exact J;all_goals (intro hc;try simp only [hcS,reduceCtorEq] at hc;try (exfalso;omega))))
   all_goals first
    | (exfalso;omega)
    | (exfalso;simp at hc;done)
    | (exact Ck rfl rfl rfl QM rfl rfl rfl rfl)
    | (exact Df rfl rfl rfl rfl rfl)
 · rw [if_neg he]
   have hp:0<o1.length+o2.length:=by
    refine Classical.byContradiction fun w=>he ⟨List.eq_nil_of_length_eq_zero (by omega),List.eq_nil_of_length_eq_zero (by omega)⟩
   have q1:decide (o1≠[])=ltI 0 (o1.length:Int):=by cases o1 <;> simp [ltI]
   have q2:decide (o2≠[])=ltI 0 (o2.length:Int):=by cases o2 <;> simp [ltI]
   rw [q1,q2]
   clear hno hyes hbd he q1 q2
   repeat' (first|apply Ac|apply Au|apply Aa|apply Ab|(apply Af;(iterate 3 exact J);apply Ao (e:=38);exact J;intro b3)|(apply Af;(iterate 3 exact J);apply Ag (e:=130);exact J;intro b6)|(apply Bg;(iterate 3 exact J);omega;exact J;exact J)|(apply Ad;(iterate 3 exact J))|(apply Ai;exact J;exact Av rfl QM rfl;exact J;exact J)|(apply Af;(iterate 3 exact J);(first|(apply Ah;(iterate 3 exact J);exact QR;(iterate 3 exact J);skip)|(apply Ag;exact J;intro b;skip)|(apply Ay;exact J;exact Hca;exact hsc _ QL;rintro w2 h2 hle2 ⟨s,rfl,hs1,hs2⟩;skip)|(apply Ay;exact J;exact has62;exact hof _ QL;rintro v1 e1 he1 ⟨A1,d1,A2,d2,rfl,hO1,hO2⟩;skip)|(apply Aq;exact J;exact has58;exact Fra _ g x.day _ _;skip)))|(apply Aj;exact J;all_goals (intro hc;try simp only [hcS,reduceCtorEq] at hc;try (exfalso;omega))))
   all_goals first
    | (exfalso;omega)
    | (exfalso;simp at hc;done)
    | (exact Ck rfl rfl rfl QM rfl rfl rfl rfl)
    | (exact Df rfl rfl rfl rfl rfl)
theorem ofF_bad {L:List Fct}{g:Bl}(h:¬ Fd g):ofF L g=none:=by unfold ofF;rw [if_neg h]
theorem Of12_c (h:Ro)(hG:Kg h)(A:Option Addr)(n c:Nat)(l:List (Fsh×Fct))(hx:Co h A n l)(hn6:n≤65536)(g:Bl):Res Tryz.prog 8 #[.slice A n c,Fr g] h (fun u _=>u=resO (ofF (fcs l) g)):=by
 refine Bq (args:=[_,_]) ts_ok Go.Proofs.Tryz.func8 rfl rfl fun w0 X0 => ?_
 have h32:=Gx hx
 have hgm:=fun h'=>Xr h' g
 have hog:=fun h' (hl:Le h h')=>OfGame_c h' (hG.le hl) A n c l (hx.le hl) g
 have hpl:=fun h' (hl:Le h h')=>played_c h' (hG.le hl) A n c l (hx.le hl) hn6 g
 have hsome:=Qr (C:=Da (fcs l)) (Tx h32) (g:=g)
 by_cases hg:Fd g
 · simp only [if_pos hg] at hgm
   have hru:=fun r d q=>ofF_ruled (L:=fcs l) hg (r:=r) (d:=d) q
   have hpy:=fun q=>Lya (L:=fcs l) hg q
   generalize Hk (Da (fcs l)) g=oo at *
   obtain ⟨r,d,ok⟩:=oo
   dsimp only at hog hpy hsome
   clear hx h32
   cases ok
   · rw [hpy rfl]
     generalize Jq (fcs l) g=pf at *
     clear hru hpy hsome
     repeat' (first|apply Ac|apply Au|apply Aa|apply Ab|(apply Ad;(iterate 3 exact J))|(apply Ai;exact J;exact Av rfl QM rfl;exact J;exact J)|(apply Af;(iterate 3 exact J);(first|(apply Ah;(iterate 3 exact J);exact QR;(iterate 3 exact J);skip)|(apply Ao;exact J;intro b;skip)|(apply Ag;exact J;intro b;skip)|(apply Aq;exact J;exact Xo;exact hgm _;skip)|(apply Ay;exact J;exact has21;exact hog _ QL;rintro v1 h1 hle1 rfl;skip)|(apply Ay;exact J;exact has23;exact hpl _ QL;rintro v2 h2 hle2 rfl;skip)))|(apply Aj;exact J;all_goals (intro hc;try simp only [hcS,reduceCtorEq] at hc;try (exfalso;omega))))
     all_goals first
      | (exfalso;omega)
      | (exfalso;simp at hc;done)
      | (exact Ck rfl rfl rfl QM rfl rfl rfl rfl)
      | (exact Df rfl rfl rfl rfl rfl)
   · rw [hru r d rfl]
     obtain ⟨f,_,_,_,_,hab,_,hfe⟩:=hsome rfl
     have hk:r.kind=1∨r.kind=2∨r.kind=3:=by
      have:=congrArg (·.1) hfe
      dsimp only at this
      rw [this];exact hab.2
     have hlk:=effL_look r.kind
     clear hru hpy hsome hpl hab hfe
     unfold effF at hlk
     unfold Dra
     rcases hk with hk|hk|hk
     · rw [if_pos hk] at hlk ⊢
       repeat' (first|apply Ac|apply Au|apply Aa|apply Ab|(apply Af;(iterate 3 exact J);apply Ao (e:=38);exact J;intro b3)|(apply Af;(iterate 3 exact J);apply Ag (e:=64);exact J;intro b4)|(apply Af;(iterate 3 exact J);apply Ag (e:=47);exact J;intro b6)|(apply Ad;(iterate 3 exact J))|(apply Ai;exact J;exact Av rfl QM rfl;exact J;exact J)|(apply Af;(iterate 3 exact J);(first|(apply Ah;(iterate 3 exact J);exact QR;(iterate 3 exact J);skip)|(apply Aq;exact J;exact Xo;exact hgm _;skip)|(apply Ay;exact J;exact has21;exact hog _ QL;rintro v1 h1 hle1 rfl;skip)|(apply Cd;exact J;exact J;exact has57;exact eff1_c _ g r d;skip)))|(apply Bf (n:=5) [0,1,2,3,4] [(1,0),(2,0),(0,1),(3,0),(4,0)];kernel_rfl)|(apply Ce;exact J;kernel_rfl;(iterate 3 exact J))|(apply Bj;exact J;kernel_rfl;(iterate 3 exact J);exact QM;exact J;exact J)|(apply De;exact J;kernel_rfl;exact J;exact J;(first|(apply Er (ek:=ekN) (ev:=effV) (z0:=none) (key:=r.kind) (b:=bm) (m:=effL) KN;(iterate 6 exact J);exact hlk));exact QA)|(apply Br;exact J;kernel_rfl;(iterate 3 exact J);(first|(apply Bi;exact J;exact has22;exact Yb _;exact Jn;rintro v7 E7 h7 hle7 ⟨bm,rfl,rfl⟩;refine ⟨hle7,QN,?_⟩)))|(apply Bm;kernel_rfl;exact J)|(apply Aj;exact J;all_goals (intro hc;try simp only [hcS,reduceCtorEq] at hc;try (exfalso;omega))))
       all_goals first
        | (exfalso;omega)
        | (exfalso;simp at hc;done)
        | (exact Ck rfl rfl rfl QM rfl rfl rfl rfl)
     · rw [if_neg (by omega),if_pos hk] at hlk
       rw [if_neg (by omega),if_neg (by omega)]
       repeat' (first|apply Ac|apply Au|apply Aa|apply Ab|(apply Af;(iterate 3 exact J);apply Ao (e:=38);exact J;intro b3)|(apply Af;(iterate 3 exact J);apply Ag (e:=64);exact J;intro b4)|(apply Af;(iterate 3 exact J);apply Ag (e:=47);exact J;intro b6)|(apply Ad;(iterate 3 exact J))|(apply Ai;exact J;exact Av rfl QM rfl;exact J;exact J)|(apply Af;(iterate 3 exact J);(first|(apply Ah;(iterate 3 exact J);exact QR;(iterate 3 exact J);skip)|(apply Aq;exact J;exact Xo;exact hgm _;skip)|(apply Ay;exact J;exact has21;exact hog _ QL;rintro v1 h1 hle1 rfl;skip)|(apply Cd;exact J;exact J;exact has59;exact eff2_c _ g r d;skip)))|(apply Bf (n:=5) [0,1,2,3,4] [(1,0),(2,0),(0,1),(3,0),(4,0)];kernel_rfl)|(apply Ce;exact J;kernel_rfl;(iterate 3 exact J))|(apply Bj;exact J;kernel_rfl;(iterate 3 exact J);exact QM;exact J;exact J)|(apply De;exact J;kernel_rfl;exact J;exact J;(first|(apply Er (ek:=ekN) (ev:=effV) (z0:=none) (key:=r.kind) (b:=bm) (m:=effL) KN;(iterate 6 exact J);exact hlk));exact QA)|(apply Br;exact J;kernel_rfl;(iterate 3 exact J);(first|(apply Bi;exact J;exact has22;exact Yb _;exact Jn;rintro v7 E7 h7 hle7 ⟨bm,rfl,rfl⟩;refine ⟨hle7,QN,?_⟩)))|(apply Bm;kernel_rfl;exact J)|(apply Aj;exact J;all_goals (intro hc;try simp only [hcS,reduceCtorEq] at hc;try (exfalso;omega))))
       all_goals first
        | (exfalso;omega)
        | (exfalso;simp at hc;done)
        | (exact Ck rfl rfl rfl QM rfl rfl rfl rfl)
     · rw [if_neg (by omega),if_neg (by omega),if_pos hk] at hlk
       rw [if_neg (by omega),if_pos hk]
       repeat' (first|apply Ac|apply Au|apply Aa|apply Ab|(apply Af;(iterate 3 exact J);apply Ao (e:=38);exact J;intro b3)|(apply Af;(iterate 3 exact J);apply Ag (e:=64);exact J;intro b4)|(apply Af;(iterate 3 exact J);apply Ag (e:=47);exact J;intro b6)|(apply Ad;(iterate 3 exact J))|(apply Ai;exact J;exact Av rfl QM rfl;exact J;exact J)|(apply Af;(iterate 3 exact J);(first|(apply Ah;(iterate 3 exact J);exact QR;(iterate 3 exact J);skip)|(apply Aq;exact J;exact Xo;exact hgm _;skip)|(apply Ay;exact J;exact has21;exact hog _ QL;rintro v1 h1 hle1 rfl;skip)|(apply Cd;exact J;exact J;exact has60;exact eff3_c _ g r d;skip)))|(apply Bf (n:=5) [0,1,2,3,4] [(1,0),(2,0),(0,1),(3,0),(4,0)];kernel_rfl)|(apply Ce;exact J;kernel_rfl;(iterate 3 exact J))|(apply Bj;exact J;kernel_rfl;(iterate 3 exact J);exact QM;exact J;exact J)|(apply De;exact J;kernel_rfl;exact J;exact J;(first|(apply Er (ek:=ekN) (ev:=effV) (z0:=none) (key:=r.kind) (b:=bm) (m:=effL) KN;(iterate 6 exact J);exact hlk));exact QA)|(apply Br;exact J;kernel_rfl;(iterate 3 exact J);(first|(apply Bi;exact J;exact has22;exact Yb _;exact Jn;rintro v7 E7 h7 hle7 ⟨bm,rfl,rfl⟩;refine ⟨hle7,QN,?_⟩)))|(apply Bm;kernel_rfl;exact J)|(apply Aj;exact J;all_goals (intro hc;try simp only [hcS,reduceCtorEq] at hc;try (exfalso;omega))))
       all_goals first
        | (exfalso;omega)
        | (exfalso;simp at hc;done)
        | (exact Ck rfl rfl rfl QM rfl rfl rfl rfl)
 · simp only [if_neg hg] at hgm
   rw [ofF_bad hg]
   clear hog hpl hsome
   repeat' (first|apply Ac|apply Aa|apply Ab|(apply Ad;(iterate 3 exact J))|(apply Ai;exact J;exact Av rfl QM rfl;exact J;exact J)|(apply Af;(iterate 3 exact J);(first|(apply Ah;(iterate 3 exact J);exact QR;(iterate 3 exact J);skip)|(apply Ao;exact J;intro b;skip)|(apply Ag;exact J;intro b;skip)|(apply Aq;exact J;exact Xo;exact hgm _;skip)))|(apply Aj;exact J;all_goals (intro hc;try simp only [hcS,reduceCtorEq] at hc;try (exfalso;omega))))
   all_goals first
    | (exfalso;omega)
    | (exact Ck rfl rfl rfl QM rfl rfl rfl rfl)
    | (exact Df rfl rfl rfl rfl rfl)
end Go.Hw
namespace Go.Hw
open Go
attribute [local irreducible] GO GOl GDp Val Fn Res At Fx Blk By Dk Cl Has Yl Mn Ew Yx Vd Md Aaa Hk Kq ofF
open Go.Proofs (Tryz.prog)
def FRg (x:Bl) (u:List Value) (h:Ro):Prop:=u=[Fr x]
def ReadC (h:Ro) (bl bs bc:Nat) (A:Option Addr) (n c:Nat) (s co:Int):Prop:=At h ⟨bl,0,none⟩ [.slice A n c]∧At h ⟨bs,0,none⟩ [.int .i64 s]∧At h ⟨bc,0,none⟩ [.int .i64 co]
theorem ReadC.le {h h':Ro}{bl bs bc:Nat}{A:Option Addr}{n c:Nat}{s co:Int}(r:ReadC h bl bs bc A n c s co)(hl:Le h h'):ReadC h' bl bs bc A n c s co:=⟨r.1.le hl,r.2.1.le hl,r.2.2.le hl⟩
theorem G4a (h:Ro)(A:Option Addr)(n c:Nat)(s co:Int):Res Tryz.prog 24 #[.slice A n c,.int .i64 s,.int .i64 co] h (fun u h'=>∃ bl bs bc,u=.func (.func 64) #[] #[.pointer (some ⟨bl,0,none⟩),.pointer (some ⟨bs,0,none⟩),.pointer (some ⟨bc,0,none⟩)]∧ReadC h' bl bs bc A n c s co):=by
 refine Bq (args:=[_,_,_]) ts_ok Go.Proofs.Tryz.func24 rfl rfl fun w0 X0 => ?_
 repeat' (first|apply Ac|apply Aa|apply Ab|(apply Ad;(iterate 3 exact J))|(apply Af;(iterate 3 exact J);(first|(apply Ao;exact J;intro b;skip))))
 refine Gf (cs:=[.slice A n c]) QK ?_
 intro h1 hle1 hc1
 refine Gf (cs:=[.int .i64 s]) QK ?_
 intro h2 hle2 hc2
 refine Gf (cs:=[.int .i64 co]) QK ?_
 intro h3 hle3 hc3
 (first|(apply Cb;(iterate 3 exact J)))
 exact ⟨_,_,_,rfl,hc1.le (hle2.trans hle3),hc2.le hle3,hc3⟩
theorem mentSeq (h:Ro)(A:Option Addr)(n c:Nat)(l:List (Fsh×Fct))(hx:Co h A n l)(s co:Int)(bl bs bc:Nat)(hb:ReadC h bl bs bc A n c s co):Zg Tryz.prog 64 [.pointer (some ⟨bl,0,none⟩),.pointer (some ⟨bs,0,none⟩),.pointer (some ⟨bc,0,none⟩)] FRg (He (fcs l) s co) h:=by
 intro lid I Ix mI mIx hround Es h1 hle h0
 refine Bo (args:=[_,_,_,_]) ts_ok Go.Proofs.Tryz.func64 rfl rfl fun w0 X0 => ?_
 have hlen:=hx.row.len
 have hn:=hx.small
 obtain ⟨hb1,hb2,hb3⟩:=hb.le hle
 have hK:=KG
 repeat' (first|apply Ac|apply Ak|apply Aa|apply Ab|(apply Ad;(iterate 3 exact J))|(apply Bd;exact J;exact J;(first|(apply Ar;exact J;exact Bh rfl hb1 rfl));exact QA)|(apply Af;(iterate 3 exact J);(first|(apply Et Fr Value.bool;intro bm;skip))))
 refine Lh (X:=Nat×List Asn×Ro) (fun x=>x.1≤n∧Le h1 x.2.2∧I (He (fcs (l.take x.1)) s co) x.2.1 x.2.2) (fun x=>n-x.1) (fun x=>[(12,.int .i64 x.1),(11,.int .i64 n),(10,.slice A n c),(5,.map (some bm)),(0,.func (.yield lid) #[] #[]),(2,.pointer (some ⟨bs,0,none⟩)),(3,.pointer (some ⟨bc,0,none⟩))])
  (fun x=>Dk Fr Value.bool bm (L0a (He (fcs (l.take x.1)) s co))::x.2.1) (fun x=>x.2.2) (0,Es,h1) ⟨by omega,Le.refl _,h0⟩ QS rfl rfl ?_
 rintro ⟨k,Es1,hk⟩ ⟨hkn,hlk,hI⟩ ih
 dsimp only at hkn hlk hI ih ⊢
 have hl1:Le h hk:=hle.trans hlk
 have hd2:=hb2.le hlk
 have hd3:=hb3.le hlk
 by_cases hkn2:k<n
 · have a1:=hx.row.addrD hkn2
   have c1:At hk ((addrD A).add (k * ty57.size)) (Bx (l.getD k p0)):=(hx.row.cellsD p0 hkn2).le hl1
   have et:=Fq p0 (xs:=l) rfl (show k<l.length by omega)
   have hpre:=mentL_pre (fcs (l.take (k+1))) (fcs (l.drop (k+1))) s co
   have ef:fcs (l.take (k+1))++fcs (l.drop (k+1))=fcs l:=by
    unfold fcs
    rw [← List.map_append,List.take_append_drop]
   rw [ef] at hpre
   have es:fcs (l.take (k+1))=fcs (l.take k)++[(l.getD k p0).2]:=by rw [et,B5a]
   rw [es,Pe] at hpre
   have ih2:=fun Es2 h2=>ih (k+1,Es2,h2)
   dsimp only at ih2
   rw [es,Pe] at ih2
   clear ef es et ih
   generalize l.getD k p0=p at *
   have hyld:=fun pre post (e:He (fcs l) s co=pre++Kc p.2::post)=>hround pre (Kc p.2) post [Fr (Kc p.2)] Es1 hk e hl1 rfl
   have hlk2:=Efa (Kc p.2) (He (fcs (l.take k)) s co)
   have hin:=fun w=>Jra (g:=Kc p.2) (o:=He (fcs (l.take k)) s co) w
   generalize He (fcs (l.take k)) s co=o at *
   unfold Bpa at hpre ih2
   by_cases hy:(Kc p.2).s=s∧(Kc p.2).c=co∧Kc p.2 ∉ o
   · rw [if_pos hy] at hpre ih2
     obtain ⟨post,epo⟩:=hpre
     rw [List.append_assoc] at epo
     have hyl:=hyld o post epo hI
     rw [decide_eq_false hy.2.2] at hlk2
     have hin:=hin hy.2.2
     have hg1:=hy.1
     have hg2:=hy.2.1
     clear hyld hy
     unfold Kc at hyl ih2 hlk2 hin hg1 hg2 epo
     by_cases h4:p.2.kind=4
     · simp only [if_pos h4] at hyl ih2 hlk2 hin hg1 hg2 epo
       repeat' (first|apply Ac|apply Au|apply Ap|apply Ak|apply Aa|apply Ab|(apply Bg;(iterate 3 exact J);omega;exact J;exact J)|(apply Ad;(iterate 3 exact J))|(apply Ai;exact J;exact Av rfl QM rfl;exact J;exact J)|(apply Bd;exact J;exact J;(first|(apply Be (j:=k);(iterate 5 exact J);exact a1;(with_reducible exact J);omega)|(apply Ar;exact J;exact Bh rfl c1 rfl)|(apply Ar;exact J;exact Bh rfl hd2 rfl)|(apply Ar;exact J;exact Bh rfl hd3 rfl)|(apply Er (ek:=Fr) (ev:=Value.bool) (z0:=false) (key:=p.2.ru.g) (b:=bm) (m:=L0a o) hK;(iterate 6 exact J);exact hlk2));exact QA)|(apply Af;(iterate 3 exact J);(first|(apply Ah;(iterate 3 exact J);exact QR;(iterate 3 exact J);skip)|(apply Ag;exact J;intro b;skip)|(apply Cy (ek:=Fr) (ev:=Value.bool) (b:=bm) (m:=L0a o) (key:=p.2.ru.g) (u:=true) hK;(iterate 6 exact J);exact QR;skip)|(refine Ho (List.perm_append_comm (l₁:=[_,_,_])) ?_;apply Iv (Es0:=Es1) (Fs:=[_,_,_]);(iterate 3 exact J);exact hyl;rintro v E2 h2 hle2 (⟨rfl,hP⟩|⟨rfl,hP⟩);all_goals skip)))|(apply Aj;exact J;all_goals (intro hc;try simp only [hcS,reduceCtorEq] at hc;try (exfalso;omega)))|(apply Ba;exact J;exact J;all_goals (intro hc;try simp only [hcS,reduceCtorEq] at hc;try (exfalso;omega))))
       all_goals first
        | (exfalso;omega)
        | (exfalso;simp at hc;done)
        | (have h3:=ih2 E2 h2 ⟨by omega,hlk.trans hle2,hP⟩ (by omega)
           rw [← hin] at h3
           refine Iy (List.perm_append_comm (l₁:=E2) (l₂:=[_,_,_])) (Fv .here (Fv .here ?_))
           exact Hg QS h3)
        | (refine Lu (rs:=[]) (vs:=[]) (Fs:=E2) rfl rfl trivial (List.sublist_append_left _ _) (.inr ⟨_,post,?_,hP⟩)
           rw [List.append_assoc];exact epo)
     · simp only [if_neg h4] at hyl ih2 hlk2 hin hg1 hg2 epo
       repeat' (first|apply Ac|apply Au|apply Ap|apply Ak|apply Aa|apply Ab|(apply Bg;(iterate 3 exact J);omega;exact J;exact J)|(apply Ad;(iterate 3 exact J))|(apply Ai;exact J;exact Av rfl QM rfl;exact J;exact J)|(apply Bd;exact J;exact J;(first|(apply Be (j:=k);(iterate 5 exact J);exact a1;(with_reducible exact J);omega)|(apply Ar;exact J;exact Bh rfl c1 rfl)|(apply Ar;exact J;exact Bh rfl hd2 rfl)|(apply Ar;exact J;exact Bh rfl hd3 rfl)|(apply Er (ek:=Fr) (ev:=Value.bool) (z0:=false) (key:=p.2.sh.g) (b:=bm) (m:=L0a o) hK;(iterate 6 exact J);exact hlk2));exact QA)|(apply Af;(iterate 3 exact J);(first|(apply Ah;(iterate 3 exact J);exact QR;(iterate 3 exact J);skip)|(apply Ag;exact J;intro b;skip)|(apply Cy (ek:=Fr) (ev:=Value.bool) (b:=bm) (m:=L0a o) (key:=p.2.sh.g) (u:=true) hK;(iterate 6 exact J);exact QR;skip)|(refine Ho (List.perm_append_comm (l₁:=[_,_,_])) ?_;apply Iv (Es0:=Es1) (Fs:=[_,_,_]);(iterate 3 exact J);exact hyl;rintro v E2 h2 hle2 (⟨rfl,hP⟩|⟨rfl,hP⟩);all_goals skip)))|(apply Aj;exact J;all_goals (intro hc;try simp only [hcS,reduceCtorEq] at hc;try (exfalso;omega)))|(apply Ba;exact J;exact J;all_goals (intro hc;try simp only [hcS,reduceCtorEq] at hc;try (exfalso;omega))))
       all_goals first
        | (exfalso;omega)
        | (exfalso;simp at hc;done)
        | (have h3:=ih2 E2 h2 ⟨by omega,hlk.trans hle2,hP⟩ (by omega)
           rw [← hin] at h3
           refine Iy (List.perm_append_comm (l₁:=E2) (l₂:=[_,_,_])) (Fv .here (Fv .here ?_))
           exact Hg QS h3)
        | (refine Lu (rs:=[]) (vs:=[]) (Fs:=E2) rfl rfl trivial (List.sublist_append_left _ _) (.inr ⟨_,post,?_,hP⟩)
           rw [List.append_assoc];exact epo)
   · rw [if_neg hy] at ih2
     have hgo:=ih2 Es1 hk ⟨by omega,hlk,hI⟩ (by omega)
     clear hyld hpre hin ih2
     unfold Kc at hlk2 hy
     by_cases h4:p.2.kind=4
     · simp only [if_pos h4] at hlk2 hy
       by_cases hb:p.2.ru.g.s=s∧p.2.ru.g.c=co
       · rw [decide_eq_true (Classical.byContradiction fun w=>hy ⟨hb.1,hb.2,w⟩)] at hlk2
         obtain ⟨hg1,hg2⟩:=hb
         repeat' (first|apply Ac|apply Au|apply Ak|apply Aa|apply Ab|(apply Bn;exact J)|(apply Bg;(iterate 3 exact J);omega;exact J;exact J)|(apply Ad;(iterate 3 exact J))|(apply Ai;exact J;exact Av rfl QM rfl;exact J;exact J)|(apply Bd;exact J;exact J;(first|(apply Be (j:=k);(iterate 5 exact J);exact a1;(with_reducible exact J);omega)|(apply Ar;exact J;exact Bh rfl c1 rfl)|(apply Ar;exact J;exact Bh rfl hd2 rfl)|(apply Ar;exact J;exact Bh rfl hd3 rfl)|(apply Er (ek:=Fr) (ev:=Value.bool) (z0:=false) (key:=p.2.ru.g) (b:=bm) (m:=L0a o) hK;(iterate 6 exact J);exact hlk2));exact QA)|(apply Af;(iterate 3 exact J);(first|(apply Ah;(iterate 3 exact J);exact QR;(iterate 3 exact J);skip)|(apply Ag;exact J;intro b;skip)))|(apply Aj;exact J;all_goals (intro hc;try simp only [hcS,reduceCtorEq] at hc;try (exfalso;omega)))|(apply Ba;exact J;exact J;all_goals (intro hc;try simp only [hcS,reduceCtorEq] at hc;try (exfalso;omega))))
         all_goals first
          | (exfalso;omega)
          | (exfalso;simp at hc;done)
          | (refine Fv .here (Fv .here ?_)
             exact Hg QS hgo)
       · repeat' (first|apply Ac|apply Au|apply Ak|apply Aa|apply Ab|(apply Bn;exact J)|(apply Aw;exact J;exact J)|(apply Bg;(iterate 3 exact J);omega;exact J;exact J)|(apply Ad;(iterate 3 exact J))|(apply Ai;exact J;exact Av rfl QM rfl;exact J;exact J)|(apply Bd;exact J;exact J;(first|(apply Be (j:=k);(iterate 5 exact J);exact a1;(with_reducible exact J);omega)|(apply Ar;exact J;exact Bh rfl c1 rfl)|(apply Ar;exact J;exact Bh rfl hd2 rfl)|(apply Ar;exact J;exact Bh rfl hd3 rfl));exact QA)|(apply Af;(iterate 3 exact J);(first|(apply Ah;(iterate 3 exact J);exact QR;(iterate 3 exact J);skip)|(apply Ag;exact J;intro b;skip)))|(apply Aj;exact J;all_goals (intro hc;try simp only [hcS,reduceCtorEq] at hc;try (exfalso;omega)))|(apply Ba;exact J;exact J;all_goals (intro hc;try simp only [hcS,reduceCtorEq] at hc;try (exfalso;omega))))
         all_goals first
          | (exfalso;omega)
          | (exfalso;simp at hc;done)
          | (refine Fv .here (Fv .here ?_)
             exact Hg QS hgo)
     · simp only [if_neg h4] at hlk2 hy
       by_cases hb:p.2.sh.g.s=s∧p.2.sh.g.c=co
       · rw [decide_eq_true (Classical.byContradiction fun w=>hy ⟨hb.1,hb.2,w⟩)] at hlk2
         obtain ⟨hg1,hg2⟩:=hb
         repeat' (first|apply Ac|apply Au|apply Ak|apply Aa|apply Ab|(apply Bn;exact J)|(apply Bg;(iterate 3 exact J);omega;exact J;exact J)|(apply Ad;(iterate 3 exact J))|(apply Ai;exact J;exact Av rfl QM rfl;exact J;exact J)|(apply Bd;exact J;exact J;(first|(apply Be (j:=k);(iterate 5 exact J);exact a1;(with_reducible exact J);omega)|(apply Ar;exact J;exact Bh rfl c1 rfl)|(apply Ar;exact J;exact Bh rfl hd2 rfl)|(apply Ar;exact J;exact Bh rfl hd3 rfl)|(apply Er (ek:=Fr) (ev:=Value.bool) (z0:=false) (key:=p.2.sh.g) (b:=bm) (m:=L0a o) hK;(iterate 6 exact J);exact hlk2));exact QA)|(apply Af;(iterate 3 exact J);(first|(apply Ah;(iterate 3 exact J);exact QR;(iterate 3 exact J);skip)|(apply Ag;exact J;intro b;skip)))|(apply Aj;exact J;all_goals (intro hc;try simp only [hcS,reduceCtorEq] at hc;try (exfalso;omega)))|(apply Ba;exact J;exact J;all_goals (intro hc;try simp only [hcS,reduceCtorEq] at hc;try (exfalso;omega))))
         all_goals first
          | (exfalso;omega)
          | (exfalso;simp at hc;done)
          | (refine Fv .here (Fv .here ?_)
             exact Hg QS hgo)
       · repeat' (first|apply Ac|apply Au|apply Ak|apply Aa|apply Ab|(apply Bn;exact J)|(apply Aw;exact J;exact J)|(apply Bg;(iterate 3 exact J);omega;exact J;exact J)|(apply Ad;(iterate 3 exact J))|(apply Ai;exact J;exact Av rfl QM rfl;exact J;exact J)|(apply Bd;exact J;exact J;(first|(apply Be (j:=k);(iterate 5 exact J);exact a1;(with_reducible exact J);omega)|(apply Ar;exact J;exact Bh rfl c1 rfl)|(apply Ar;exact J;exact Bh rfl hd2 rfl)|(apply Ar;exact J;exact Bh rfl hd3 rfl));exact QA)|(apply Af;(iterate 3 exact J);(first|(apply Ah;(iterate 3 exact J);exact QR;(iterate 3 exact J);skip)|(apply Ag;exact J;intro b;skip)))|(apply Aj;exact J;all_goals (intro hc;try simp only [hcS,reduceCtorEq] at hc;try (exfalso;omega)))|(apply Ba;exact J;exact J;all_goals (intro hc;try simp only [hcS,reduceCtorEq] at hc;try (exfalso;omega))))
         all_goals first
          | (exfalso;omega)
          | (exfalso;simp at hc;done)
          | (refine Fv .here (Fv .here ?_)
             exact Hg QS hgo)
 · rw [List.take_of_length_le (by omega)] at hI
   repeat' (first|apply Ac|apply Aa|apply Ab|(apply Bn;exact J)|(apply Ad;(iterate 3 exact J))|(apply Aj;exact J;all_goals (intro hc;try simp only [hcS,reduceCtorEq] at hc;try (exfalso;omega))))
   refine Fv .here ?_
   exact Fe (rs:=[]) (vs:=[]) rfl rfl trivial (.inl hI)
end Go.Hw
namespace Go.Hw
open Go
attribute [local irreducible] GO GOl GDp Val Fn Res At Fx Blk By Dk Cl Has Yl Mn Ew Yx Vd Md Aaa Hk Kq ofF
open Go.Proofs (Tryz.prog)
def cmpR (a b:Dm):Int:=orL [Ey a.day b.day,Ey a.g.h b.g.h,Ey a.g.a b.g.a]
theorem cmpR_lt {a b:Dm}:cmpR a b<0↔LtR a b:=by
 unfold cmpR LtR
 simp only [Rx,show orL []=0 from rfl]
 unfold Ey
 (repeat' split) <;> omega
theorem ltOfR (a b:Dm):Go.Proofs.ltOf cmpR a b=decide (LtR a b):=by
 unfold Go.Proofs.ltOf;rw [decide_eq_decide];exact cmpR_lt
theorem swoR:Go.Sort.SWO (Go.Proofs.ltOf cmpR) where
 irrefl x:=by rw [ltOfR];exact decide_eq_false (LtR.irrefl x)
 trans x y z h1 h2:=by rw [ltOfR,decide_eq_true_eq] at *;exact LtR.trans _ _ _ h1 h2
 ntrans x y z h1 h2:=by rw [ltOfR,decide_eq_false_iff_not] at *;unfold LtR at *;omega
theorem allR1_c (h:Ro)(x y:Dm):Res Tryz.prog 26 #[Bga x,Bga y] h (fun u _=>u=.int .i64 (cmpR x y)):=by
 refine Bq (args:=[_,_]) ts_ok Go.Proofs.Tryz.func26 rfl rfl fun w0 X0 => ?_
 unfold cmpR
 generalize hor:orL [Ey x.day y.day,Ey x.g.h y.g.h,Ey x.g.a y.g.a]=o at *
 repeat' (first|apply Ac|apply Aa|apply Ab|(apply Ad;(iterate 3 exact J))|(apply Af;(iterate 3 exact J);(first|(apply Ao;exact J;intro b;skip)))|(apply Bf (n:=1) [0,1,2,3,4,5,6,7,8,9,10,11,12,13,14,15,16,17,18,19,20,21] [(0,0),(1,0),(2,0),(3,0),(5,0),(6,0),(7,0),(8,0),(9,0),(10,0),(12,0),(13,0),(14,0),(15,0),(16,0),(17,0),(4,1),(11,1),(18,1),(19,1),(20,1),(21,0)];kernel_rfl)|(apply Ce;exact J;kernel_rfl;(iterate 3 exact J))|(apply Bj;exact J;kernel_rfl;(iterate 3 exact J);exact QM;exact J;exact J)|(apply Br;exact J;kernel_rfl;(iterate 3 exact J);(first|(apply Aq;exact J;exact Mca;exact Tu _ _ _;refine ⟨Le.refl _,QN,?_⟩)|(apply Bu (e:=3) (cs:=[Ey x.day y.day,Ey x.g.h y.g.h,Ey x.g.a y.g.a].map fun i=>.int .i64 i);(iterate 3 exact J);exact List.cons_ne_nil _ _;(iterate 4 exact J);intro b1 h1 hle1 hcs1;refine ⟨hle1,QN,?_⟩)|(apply Aq;exact J;exact has27;(have hv7:=or7_c _ _ 3 3 [Ey x.day y.day,Ey x.g.h y.g.h,Ey x.g.a y.g.a] (Gv hcs1) (by omega);rw [hor] at hv7;exact hv7);refine ⟨Le.refl _,QN,?_⟩)))|(apply Bm;kernel_rfl;exact J)|(apply Cb;(iterate 3 exact J)))
 all_goals rfl
theorem sortRe_c (h:Ro)(v:Value)(xs:List Dm)(n:Nat)(hn:n≤1000000)(hx:xs.length=n) :
  Fn Tryz.prog 25 #[v,.func (.func 26) #[] #[]] [By 64 13 v n (xs.flatMap Jb)] h fun u Es _=>u=.tuple #[]∧∃ ys:List Dm,ys.Perm xs∧(ys.Pairwise fun x y=>¬ LtR y x)∧Es=[By 64 13 v n (ys.flatMap Jb)]:=by
 have hN:∀ (p:Option Addr) (cap:Nat) (w:World),Calls Tryz.prog 25 #[.slice p 0 cap,.func (.func 26) #[] #[]] w fun e w'=>e=.returned (.tuple #[])∧w'=w:=fun p cap w=>Go.Proofs.AnyF.slices_SortFunc_none Go.Proofs.Tryz.sortResults p cap _ w
 have hC:∀ (blk off cap:Nat) (d:Array Dm) (w:World),Go.Proofs.CmpLays Tryz.prog 26 #[] Jb 13 cmpR blk off d.size w→Go.Sort.HoldsK Jb 13 w blk off d→blk<w.heap.size→d.size<4611686018427387904 →
  Calls Tryz.prog 25 #[.slice (some ⟨blk,off,none⟩) d.size cap,.func (.func 26) #[] #[]] w fun e w'=>e=.returned (.tuple #[])∧∃ d' n os,Go.Sort.PermIn 0 d.size d d'∧Go.Sort.SortedIn (Go.Proofs.ltOf cmpR) 0 d.size d'∧w'=Go.Proofs.sortWorldK Jb 13 w blk off n d' os:=fun blk off cap d w hc hH hb hs =>
  Go.Proofs.AnyQ.slices_SortFunc Go.Proofs.Tryz.sortResults 13 (fun w=>ts_ok.run_agg (n:=64) rfl w) (fun w=>ts_ok.run_size (n:=64) rfl w) Jb (fun _=>rfl) (fun a=>Ci rfl) cmpR swoR 26 #[] blk off cap d w (Go.Proofs.enters_of Go.Proofs.Tryz.func26 (by kernel_rfl) rfl) hc hH hb hs
 have hcmp:∀ x y:Dm,Res Tryz.prog 26 (#[Bga x,Bga y]++#[]) h fun u _=>u=.int .i64 (cmpR x y):=fun x y=>by
  rw [Array.append_empty]
  exact allR1_c h x y
 have key:=Bba (α:=Dm) (P:=Tryz.prog) (f:=25) (gf:=26) (cb:=#[]) Jb 13 (fun _=>rfl) (by decide) cmpR h hC hN hcmp 64 v xs n (by omega) hx
 refine key.mono ?_
 rintro u Es h' hle ⟨rfl,ys,hp,hso,rfl⟩
 refine ⟨rfl,ys,hp,hso.imp fun {a b} hab => ?_,rfl⟩
 rw [ltOfR,decide_eq_false_iff_not] at hab
 exact hab
theorem All_c (h:Ro)(hG:Kg h)(A:Option Addr)(n c:Nat)(l:List (Fsh×Fct))(hx:Co h A n l)(hn6:n≤65536)(s co:Int):Res Tryz.prog 9 #[.slice A n c,.int .i64 s,.int .i64 co] h (fun u h'=>∃ A' c',u=.slice A' (C4a (fcs l) s co).length c'∧(C4a (fcs l) s co).length≤c'∧Cc Jb 13 h' A' (C4a (fcs l) s co).length (C4a (fcs l) s co)):=by
 refine Bq (args:=[_,_,_]) ts_ok Go.Proofs.Tryz.func9 rfl rfl fun w0 X0 => ?_
 have h32:=Gx hx
 have hm:=Tn (fcs l) s co
 have hmem:=Bha h32 (s:=s) (c:=co) (gs:=He (fcs l) s co) (fun g hg=>⟨((hm.2 g).1 hg).1,((hm.2 g).1 hg).2.1⟩) (fun f hf _ _ a b=>(hm.2 _).2 ⟨a,b,f,hf,rfl⟩)
 have hnd:=Zx h32 hm.1
 have hml:(He (fcs l) s co).length≤n:=by
  have h1:=Ega (fcs l) s co
  have h2:=hx.row.len
  unfold fcs at h1
  rw [List.length_map] at h1
  unfold fcs
  omega
 have hrl:=fun gs=>Jfa (fcs l) gs
 repeat' (first|apply Ac|apply Ak|apply Aa|apply Ab|(apply Af;(iterate 3 exact J);apply Ao (e:=22);exact J;intro b3)|(apply Af;(iterate 3 exact J);apply Ag (e:=60);exact J;intro b6)|(apply Ad;(iterate 3 exact J))|(apply Ai;exact J;exact Av rfl QM rfl;exact J;exact J)|(apply Af;(iterate 3 exact J);(first|(apply Ay;exact J;exact has24;exact G4a _ A n c s co;rintro vr h1 hle1 ⟨bl,bs,bc,rfl,hr⟩;skip))))
 refine Eh 64 13 ?_
 refine Cs (Es':=[Blk b6 60 [.slice none 0 0],By 64 13 (.slice none 0 0) 0 [],Blk b3 22 [.slice A n c]]) QT ?_
 refine Gg (R:=FRg) (xs:=He (fcs l) s co) (gf:=64) (lb:=[.pointer (some ⟨bl,0,none⟩),.pointer (some ⟨bs,0,none⟩),.pointer (some ⟨bc,0,none⟩)]) rfl rfl has64 (mentSeq _ A n c l (hx.le hle1) s co bl bs bc hr) (by rintro x u h2 rfl;rfl) rfl
  (fun pre Es h2=>∃ (A':Option Addr) (c':Nat),Es=[Blk b6 60 [.slice A' (Zy (fcs l) pre).length c'],By 64 13 (.slice A' (Zy (fcs l) pre).length c') (Zy (fcs l) pre).length ((Zy (fcs l) pre).flatMap Jb),Blk b3 22 [.slice A n c]]) (fun _ _ _ _=>False)
  (fun pre Es h2 h3 hl e=>e) (fun _ _ _ _ _ _ h=>h.elim) ⟨none,0,rfl⟩ ?_ ?_ (fun _ _ _ _ _ _ _ _ h=>h.elim)
 · rintro lid r0 w1 X1 pre x post u Es1 h2 hxe rfl ⟨A',c',rfl⟩ hle hst
   have hpl:pre.length+1≤(He (fcs l) s co).length:=by rw [hxe];simp
   have hpr:=hrl pre
   have hof:=fun h' (hl:Le h2 h')=>Of12_c h' (hG.le (hle1.trans (hle.trans hl))) A n c l (hx.le (hle1.trans (hle.trans hl))) hn6 x
   have hsn:=resL_snoc (fcs l) pre x
   cases ho:ofF (fcs l) x with
   | none =>
     rw [ho] at hsn hof
     dsimp only at hsn
     repeat' (first|apply Ac|apply Au|apply Ap|apply Ak|apply Aa|apply Ab|(apply Jf;exact J;exact QK;exact hst)|(apply Af;(iterate 3 exact J);apply Ag (e:=38);exact J;intro b7)|(apply Af;(iterate 3 exact J);apply Ag (e:=64);exact J;intro b8)|(apply Ad;(iterate 3 exact J))|(apply Ai;exact J;exact Av rfl QM rfl;exact J;exact J)|(apply Af;(iterate 3 exact J);(first|(apply Ah;(iterate 3 exact J);exact QR;(iterate 3 exact J);skip)|(apply Ay;exact J;exact has8;exact hof _ QL;rintro v2 h3 hle3 rfl;skip)))|(apply Aj;exact J;all_goals (intro hc;try simp only [hcS,reduceCtorEq] at hc;try (exfalso;omega))))
     all_goals (try (exfalso;simp at hc;done))
     all_goals
      refine Cs (Es':=[Ic lid { r0 with state:=.busy },Blk b6 60 [.slice A' (Zy (fcs l) pre).length c'],By 64 13 (.slice A' (Zy (fcs l) pre).length c') (Zy (fcs l) pre).length ((Zy (fcs l) pre).flatMap Jb),Blk b3 22 [.slice A n c]]) QT (Nj (r0:=r0) rfl .here ⟨A',c',?_⟩)
      rw [hsn]
   | some r =>
     rw [ho] at hsn hof
     dsimp only at hsn
     generalize Zy (fcs l) pre=P at *
     repeat' (first|apply Ac|apply Au|apply Ap|apply Ak|apply Aa|apply Ab|(apply Jf;exact J;exact QK;exact hst)|(apply Af;(iterate 3 exact J);apply Ag (e:=38);exact J;intro b7)|(apply Af;(iterate 3 exact J);apply Ag (e:=64);exact J;intro b8)|(apply Ad;(iterate 3 exact J))|(apply Ai;exact J;exact Av rfl QM rfl;exact J;exact J)|(apply Af;(iterate 3 exact J);(first|(apply Ah;(iterate 3 exact J);exact QR;(iterate 3 exact J);skip)|(apply Ay;exact J;exact has8;exact hof _ QL;rintro v2 h3 hle3 rfl;skip)|(apply Bc (enc:=Jb) (n:=1) [r];(iterate 3 exact J);exact List.cons_ne_nil _ _;(iterate 4 exact J);exact Gl;exact J;exact J;intro b5 h5 hle5 hs5;skip)|(apply Bk (enc:=Jb) (xs:=P) (ys:=[r]);(iterate 7 exact J);exact hs5;exact Gl;exact Rs;intro v1;exact QR;omega;exact J;intro A3 c3;skip)))|(apply Aj;exact J;all_goals (intro hc;try simp only [hcS,reduceCtorEq] at hc;try (exfalso;omega))))
     all_goals (try (exfalso;simp at hc;done))
     all_goals
      refine Cs (Es':=[Ic lid { r0 with state:=.busy },Blk b6 60 [.slice A3 (P.length+1) c3],By 64 13 (.slice A3 (P.length+1) c3) (P.length+1) ((P++[r]).flatMap Jb),Blk b3 22 [.slice A n c]]) QT (Nj (r0:=r0) rfl .here ⟨A3,c3,?_⟩)
      rw [hsn,List.length_append];rfl
 · rintro D h2 Es1 hle ⟨A',c',rfl⟩
   have hpr:=hrl (He (fcs l) s co)
   generalize Zy (fcs l) (He (fcs l) s co)=P at *
   repeat' (first|apply Ac|apply Ap|apply Aa|apply Ab|(apply Ai;exact J;exact Av rfl QM rfl;exact J;exact J)|(apply Af;(iterate 3 exact J);(first|(apply Ah;(iterate 3 exact J);exact QR;(iterate 3 exact J);skip)|(apply Bi;exact J;exact has25;exact sortRe_c _ _ P P.length (by omega) rfl;exact QT;rintro v3 Es3 h3 hle3 ⟨rfl,ys,hp,hso,rfl⟩;skip))))
   all_goals
    have hall:=allC_of (Zs hmem hnd hp hso)
    have hyl:ys.length=P.length:=hp.length_eq
    refine Ge (enc:=Jb) (e:=64) (sz:=13) (n:=P.length) (xs:=ys) Gl hyl QK ?_
    intro A7 c7 h7 hle7 e7 hnc7 hs7
    cases e7
    rw [← hyl] at hnc7 hs7
    refine Cxa (Nf rfl QK (Rt_S (rs:=[.cell 6 60]) (vs:=[.slice A' P.length c']) rfl rfl ⟨⟨_,rfl,Av rfl QM rfl⟩,trivial⟩ (List.nil_sublist _) ⟨rfl,A',c',?_,?_,?_⟩))
    · rw [← hall,hyl];rfl
    · rw [← hall];exact hnc7
    · rw [← hall];exact hs7
end Go.Hw

import Derived.Test.YtlnenhhbalpbpaaGreatDoorFE
import Derived.Test.YtlnenhhbalpbpaaGreatDoorGA
import Derived.Test.YtlnenhhbalpbpaaGreatDoorHB
set_option linter.all false
namespace Go.Hw
open Go
def resC (r:Ml):List Value:=[.int .i64 r.g.s,.int .i64 r.g.c,.int .i64 r.g.h,.int .i64 r.g.a,.int .i64 r.hg,.int .i64 r.ag,.int .i64 r.hp,.int .i64 r.ap,.int .i64 r.hc,.int .i64 r.ac,.int .i64 r.day,.bool r.forf,.bool r.both]
abbrev Kta (r:Ml):Value:=.agg (resC r).toArray
def resO (o:Option Ml):Value:=.tuple #[Kta (o.getD Aza),.bool o.isSome]
end Go.Hw
namespace Go.Hw
open Go
abbrev DuS:=Sli×Eb
def duelC (s:Sli) (d:Eb):List Value:=[.int .i64 d.a,.int .i64 d.b,.slice s.A s.n s.c]
def encDu (p:DuS):List Value:=duelC p.1 p.2
def DuAt (h:Ro) (p:DuS):Prop:=Ar resC 13 h p.1.A p.1.n p.2.ls∧p.1.n≤p.1.c
theorem DuAt.le {h h':Ro}{p:DuS}(a:DuAt h p)(hl:Le h h'):DuAt h' p:=⟨a.1.le hl,a.2⟩
theorem DuAt.len {h:Ro}{p:DuS}(a:DuAt h p):p.2.ls.length=p.1.n:=a.1.len
abbrev RdS:=Sli×List DuS
def encRd (r:RdS):List Value:=[.slice r.1.A r.1.n r.1.c]
def duels (l:List DuS):List Eb:=l.map (·.2)
structure DusAt (h:Ro) (A:Option Addr) (n:Nat) (l:List DuS):Prop where
 row:Ar encDu 3 h A n l
 each:∀ p∈l,DuAt h p
theorem DusAt.le {h h':Ro}{A:Option Addr}{n:Nat}{l:List DuS}(a:DusAt h A n l)(hl:Le h h'):DusAt h' A n l:=⟨a.row.le hl,fun p hp=>(a.each p hp).le hl⟩
def RdAt (h:Ro) (r:RdS):Prop:=DusAt h r.1.A r.1.n r.2∧r.1.n≤r.1.c
theorem RdAt.le {h h':Ro}{r:RdS}(a:RdAt h r)(hl:Le h h'):RdAt h' r:=⟨a.1.le hl,a.2⟩
structure RdsAt (h:Ro) (A:Option Addr) (n:Nat) (l:List RdS):Prop where
 row:Ar encRd 1 h A n l
 each:∀ r∈l,RdAt h r
theorem RdsAt.le {h h':Ro}{A:Option Addr}{n:Nat}{l:List RdS}(a:RdsAt h A n l)(hl:Le h h'):RdsAt h' A n l:=⟨a.row.le hl,fun p hp=>(a.each p hp).le hl⟩
def rounds (l:List RdS):List (List Eb):=l.map fun r=>duels r.2
structure BrAt (h:Ro) (s:Sli) (l:List RdS) (b:FBr):Prop where
 rs:RdsAt h s.A s.n l
 is:b.rs=rounds l
 nc:s.n≤s.c
theorem BrAt.le {h h':Ro}{s:Sli}{l:List RdS}{b:FBr}(a:BrAt h s l b)(hl:Le h h'):BrAt h' s l b:=⟨a.rs.le hl,a.is,a.nc⟩
theorem BrAt.zero (h:Ro):BrAt h Gt [] br0:=⟨⟨Ar.nil,fun p hp=>absurd hp QAn⟩,rfl,Nat.le_refl _⟩
end Go.Hw
set_option maxRecDepth 100000
set_option maxHeartbeats 8000000
namespace Go.Hw
open Go
attribute [local irreducible] GO GOl GDp Val Fn Res Ab Du Blk Bd Cd Bf Has Yl
open Go.Proofs.Tryz (prog)
def K2a (m n:Int):Bool:=decide (n<0∨m<n)
theorem Fra (h:Ro)(x m:Int)(b1:Nat)(h1:Ab h ⟨b1,0,none⟩ [.int .i64 m]):Val prog 72 #[.int .i64 x,.pointer (some ⟨b1,0,none⟩)] h (.bool (K2a m x)):=by
 refine QXV Proofs.Tryz.func72 fun w0 X0=>?_
 unfold K2a
 repeat' (first|refine QF ?_|(apply Af;exact J;exact J;(first|exact QAb);exact QA)|refine QJ ?_|(refine QI ?_ ?_<;>intro hc<;>try omega)|(apply Ac;(iterate 3 exact J)))
 all_goals (refine Bg ?_;(try rw [ltI_t]);grind)
theorem Rx (h:Ro)(m:Int)(A:Option Addr)(n c:Nat)(xs:List Int)(hx:Ar Cu 1 h A n xs)(hn:n≤1000):Val prog 34 #[.int .i64 m,.slice A n c] h (.bool (!(xs.any (K2a m)))):=by
 refine QXV Proofs.Tryz.func34 fun w0 X0=>?_
 generalize hb:xs.any (K2a m)=q at *
 repeat' (first|refine QF ?_|(refine QB ?_;intro b)|(refine QG ?_;first|(refine Bv (cs:=[.int .i64 m]) QK ?_;intro h1 hle1 hc1;apply Aa;exact J;exact has71;(have hv:=G5a h1 A n c xs (hx.le hle1) QAd 72 [] [.pointer (some ⟨_,0,none⟩)] (K2a m) has72 (fun x _=>Fra h1 x m _ hc1);rw [hb] at hv;exact hv)))|fail)
 all_goals first
  | (exact Ac rfl rfl rfl rfl)
theorem Kl (m:Int)(xs:List Int):(!(xs.any (K2a m)))=true↔∀ x∈xs,0≤x∧x≤m:=by
 rw [Bool.not_eq_true',List.any_eq_false]
 unfold K2a
 constructor
 · intro h x hx
   have:=h x hx
   rw [decide_eq_true_eq] at this
   omega
 · intro h x hx
   have:=h x hx
   rw [decide_eq_true_eq]
   omega
theorem resOk_w (r:Ml):B8a r↔Dh r.g∧(!([r.hg,r.ag,r.hp,r.ap].any (K2a 99)))=true∧(!([r.hc,r.ac].any (K2a 120)))=true∧(!([r.day].any (K2a 1048576)))=true∧(r.g.c<8→r.hp+r.ap=0) ∧
  (if r.forf=true then (if r.both=true then r.hg=0∧r.ag=0 else (r.hg=0∧r.ag=3)∨(r.hg=3∧r.ag=0))∧r.hp+r.ap+r.hc+r.ac=0 else r.both=false):=by
 rw [Kl,Kl,Kl]
 unfold B8a Bel
 simp only [List.mem_cons,List.not_mem_nil,or_false,forall_eq_or_imp,forall_eq]
 constructor
 · rintro ⟨h1,h2,h3,h4,h5,h6,h7,h8,h9,h10⟩
   exact ⟨h1,⟨by omega,by omega,by omega,by omega⟩,⟨by omega,by omega⟩,by omega,h9,h10⟩
 · rintro ⟨h1,⟨h2,h3,h4,h5⟩,⟨h6,h7⟩,h8,h9,h10⟩
   exact ⟨h1,by omega,by omega,by omega,by omega,by omega,by omega,by omega,h9,h10⟩
theorem Eua (h:Ro)(r:Ml):Res prog 12 #[Kta r] h (fun u _=>u=.int .i64 (if B8a r then 0 else 1)):=by
 refine QXR Proofs.Tryz.func12 fun w0 X0=>?_
 have hgm:=fun h'=>Wm h' r.g
 have hR:=fun (_:Unit)=>resOk_w r
 have i1:=Kl 99 [r.hg,r.ag,r.hp,r.ap]
 have i2:=Kl 120 [r.hc,r.ac]
 have w1:=fun h' A (hs:Ar Cu 1 h' A 4 [r.hg,r.ag,r.hp,r.ap])=>Rx h' 99 A 4 4 _ hs QAs
 have w2:=fun h' A (hs:Ar Cu 1 h' A 2 [r.hc,r.ac])=>Rx h' 120 A 2 2 _ hs QAs
 have w3:=fun h' A (hs:Ar Cu 1 h' A 1 [r.day])=>Rx h' 1048576 A 1 1 _ hs QAs
 generalize (!([r.hg,r.ag,r.hp,r.ap].any (K2a 99)))=q1 at *
 generalize (!([r.hc,r.ac].any (K2a 120)))=q2 at *
 generalize (!([r.day].any (K2a 1048576)))=q3 at *
 simp only [List.mem_cons,List.not_mem_nil,or_false,forall_eq_or_imp,forall_eq] at i1 i2
 by_cases hgo:Dh r.g
 · simp only [if_pos hgo] at hgm
   by_cases hq:q1=true∧q2=true∧q3=true
   · obtain ⟨rfl,rfl,rfl⟩:=hq
     obtain ⟨⟨u1,u2⟩,⟨u3,u4⟩,⟨u5,u6⟩,u7,u8⟩:=i1.1 rfl
     obtain ⟨⟨u9,u10⟩,u11,u12⟩:=i2.1 rfl
     clear i1 i2
     all_goals
      repeat' (first|refine QFs ?_|(apply Af;exact J;exact J;(first|(apply Hc (j:=0);(iterate 5 exact J);omega;omega)|(apply Hc (j:=1);(iterate 5 exact J);omega;omega));exact QA)|(refine QB ?_;intro b)|(refine QG ?_;first|(refine QCf ?_)|(refine QDr ?_;intro b1 h1 hle1 hs1)|(refine QD0 ?_;intro b2 h2 hle2 hs2)|(refine QD5 ?_;intro b3 h3 hle3 hs3)|(apply Aa;exact J;exact has34;(first|exact w1 _ _ hs1|exact w2 _ _ hs2|exact w3 _ _ hs3)))|(refine QH ?_ ?_<;>intro hc<;>try omega)|refine QJ ?_|(refine QI ?_ ?_<;>intro hc<;>try omega)|fail)
     all_goals first
      | (exfalso;simp at hc;done)
      | (refine Ay rfl rfl rfl ?_;first|(rw [if_pos ((hR ()).2 ⟨hgo,rfl,rfl,rfl,by omega,by grind⟩)];done)|(rw [if_neg (fun k=>by have k2:=((hR ()).1 k).2.2.2.2;grind)];done))
   · have hno:¬ B8a r:=fun k=>hq (by have k2:=(hR ()).1 k;exact ⟨k2.2.1,k2.2.2.1,k2.2.2.2.1⟩)
     rw [if_neg hno]
     clear hR i1 i2 hno
     cases q1
     all_goals (try cases q2)
     all_goals (try cases q3)
     all_goals (try (exfalso;simp at hq;done))
     all_goals
      repeat' (first|refine QF ?_|(refine QB ?_;intro b)|(refine QG ?_;first|(refine QCf ?_)|(refine QDr ?_;intro b1 h1 hle1 hs1)|(refine QD0 ?_;intro b2 h2 hle2 hs2)|(refine QD5 ?_;intro b3 h3 hle3 hs3)|(apply Aa;exact J;exact has34;(first|exact w1 _ _ hs1|exact w2 _ _ hs2|exact w3 _ _ hs3)))|(refine QH ?_ ?_<;>intro hc<;>try omega)|refine QJ ?_|(refine QI ?_ ?_<;>intro hc<;>try omega)|fail)
     all_goals first
      | (exfalso;simp at hc;done)
      | (exact Ay rfl rfl rfl rfl)
 · simp only [if_neg hgo] at hgm
   rw [if_neg (fun k=>hgo ((hR ()).1 k).1)]
   repeat' (first|refine QF ?_|(refine QB ?_;intro b)|(refine QG ?_;first|(refine QCf ?_))|(refine QH ?_ ?_<;>intro hc<;>try omega)|refine QJ ?_|(refine QI ?_ ?_<;>intro hc<;>try omega)|fail)
   all_goals first
    | (exfalso;omega)
    | (exact Ay rfl rfl rfl rfl)
end Go.Hw

import Derived.Test.YtlnenhhbalpbpabGreatDoorFA
import Derived.Test.YtlnenhhbalpbpabGreatDoorHC
import Derived.Test.YtlnenhhbalpbpabGreatDoorLT
set_option linter.all false
namespace Go.Hw
open Go
structure Sli where
 A:Option Addr
 n:Nat
 c:Nat
def Ja:Sli:=⟨none,0,0⟩
structure Fsh where
 cl:Sli
 hs:Sli
 asn : Sli
 hc:Sli
 ac:Sli
 lo:Sli
def Nv:Fsh:=⟨Ja,Ja,Ja,Ja,Ja,Ja⟩
def Aoa (c:Fy):List Value:=[.int .i64 c.p,.bool c.red]
def Km (g:Bl):List Value:=[.int .i64 g.s,.int .i64 g.c,.int .i64 g.h,.int .i64 g.a]
def Wo (s:Fsh) (x:El):List Value:=[.int .i64 x.g.s,.int .i64 x.g.c,.int .i64 x.g.h,.int .i64 x.g.a,.int .i64 x.ref,.int .i64 x.hg,.int .i64 x.ag,.int .i64 x.hp,.int .i64 x.ap,
 .slice s.hs.A s.hs.n s.hs.c,.slice s.asn.A s.asn.n s.asn.c,.slice s.hc.A s.hc.n s.hc.c,.slice s.ac.A s.ac.n s.ac.c]
def Lw (r:Iz):List Value:=[.int .i64 r.case,.int .i64 r.inst,.int .i64 r.kind,.int .i64 r.g.s,.int .i64 r.g.c,.int .i64 r.g.h,.int .i64 r.g.a,.int .i64 r.club,.int .i64 r.player,
 .int .i64 r.season,.int .i64 r.comp,.int .i64 r.points,.int .i64 r.amount,.int .i64 r.hg,.int .i64 r.ag,.int .i64 r.lo,.int .i64 r.hi]
def vB (l:List UInt8) (i:Nat):Value:=.int .u8 ((l.getD i 0).toNat:Int)
def C7a (v:List UInt8):List Value:=[vB v 0,vB v 1,vB v 2,vB v 3,vB v 4,vB v 5,vB v 6,vB v 7,vB v 8,vB v 9,vB v 10,vB v 11,vB v 12,vB v 13,vB v 14,vB v 15,
 vB v 16,vB v 17,vB v 18,vB v 19,vB v 20,vB v 21,vB v 22,vB v 23,vB v 24,vB v 25,vB v 26,vB v 27,vB v 28,vB v 29,vB v 30,vB v 31]
def Dx (s:Fsh) (x:Fct):List Value:=[.int .i64 x.kind,.int .i64 x.day,.int .i64 x.known,.int .i64 x.eS,.int .i64 x.eC,.slice s.cl.A s.cl.n s.cl.c,.string (str x.eRules),
 .int .i64 x.fg.s,.int .i64 x.fg.c,.int .i64 x.fg.h,.int .i64 x.fg.a,.int .i64 x.venue,
 .int .i64 x.sh.g.s,.int .i64 x.sh.g.c,.int .i64 x.sh.g.h,.int .i64 x.sh.g.a,.int .i64 x.sh.ref,.int .i64 x.sh.hg,.int .i64 x.sh.ag,.int .i64 x.sh.hp,.int .i64 x.sh.ap,
 .slice s.hs.A s.hs.n s.hs.c,.slice s.asn.A s.asn.n s.asn.c,.slice s.hc.A s.hc.n s.hc.c,.slice s.ac.A s.ac.n s.ac.c,
 .int .i64 x.ru.case,.int .i64 x.ru.inst,.int .i64 x.ru.kind,.int .i64 x.ru.g.s,.int .i64 x.ru.g.c,.int .i64 x.ru.g.h,.int .i64 x.ru.g.a,.int .i64 x.ru.club,.int .i64 x.ru.player,
 .int .i64 x.ru.season,.int .i64 x.ru.comp,.int .i64 x.ru.points,.int .i64 x.ru.amount,.int .i64 x.ru.hg,.int .i64 x.ru.ag,.int .i64 x.ru.lo,.int .i64 x.ru.hi,
 .int .i64 x.aCase,.int .i64 x.aInst,.bool x.aSusp,.int .i64 x.mP,.int .i64 x.mTo,.int .i64 x.lS,.int .i64 x.lC,.slice s.lo.A s.lo.n s.lo.c,
 vB x.void 0,vB x.void 1,vB x.void 2,vB x.void 3,vB x.void 4,vB x.void 5,vB x.void 6,vB x.void 7,vB x.void 8,vB x.void 9,vB x.void 10,vB x.void 11,vB x.void 12,vB x.void 13,vB x.void 14,vB x.void 15,
 vB x.void 16,vB x.void 17,vB x.void 18,vB x.void 19,vB x.void 20,vB x.void 21,vB x.void 22,vB x.void 23,vB x.void 24,vB x.void 25,vB x.void 26,vB x.void 27,vB x.void 28,vB x.void 29,vB x.void 30,vB x.void 31]
def Fr (g:Bl):Value:=.agg (Km g).toArray
def Dma (s:Fsh) (x:El):Value:=.agg (Wo s x).toArray
def Ta (r:Iz):Value:=.agg (Lw r).toArray
def Fc (s:Fsh) (x:Fct):Value:=.agg (Dx s x).toArray
def entV7 (s:Fsh) (x:Fct):Value:=.agg [.int .i64 x.eS,.int .i64 x.eC,.slice s.cl.A s.cl.n s.cl.c,.string (str x.eRules)].toArray
def lotV (s:Fsh) (x:Fct):Value:=.agg [.int .i64 x.lS,.int .i64 x.lC,.slice s.lo.A s.lo.n s.lo.c].toArray
structure Vl (h:Ro) (s:Fsh) (x:El):Prop where
 hs:Cc Ex 1 h s.hs.A s.hs.n x.hs
 asn : Cc Ex 1 h s.asn.A s.asn.n x.asn
 hc:Cc Aoa 2 h s.hc.A s.hc.n x.hc
 ac:Cc Aoa 2 h s.ac.A s.ac.n x.ac
structure FAt (h:Ro) (s:Fsh) (x:Fct):Prop where
 sh:Vl h s x.sh
 cl:Cc Ex 1 h s.cl.A s.cl.n x.eClubs
 lo:Cc Ex 1 h s.lo.A s.lo.n x.lO
 void:x.void.length=32
 lc:s.lo.n≤s.lo.c
theorem Vl.le {h h':Ro}{s:Fsh}{x:El}(a:Vl h s x)(hl:Le h h'):Vl h' s x:=⟨a.hs.le hl,a.asn.le hl,a.hc.le hl,a.ac.le hl⟩
theorem FAt.le {h h':Ro}{s:Fsh}{x:Fct}(a:FAt h s x)(hl:Le h h'):FAt h' s x:=⟨a.sh.le hl,a.cl.le hl,a.lo.le hl,a.void,a.lc⟩
def Iea (x:El):Prop:=x.hs.length≤9223372036854775807∧x.asn.length≤9223372036854775807∧x.hc.length≤9223372036854775807∧x.ac.length≤9223372036854775807
def FSm (x:Fct):Prop:=Iea x.sh∧x.eClubs.length≤9223372036854775807∧x.lO.length≤9223372036854775807∧x.eRules.length≤9223372036854775807
def FSm1 (x:Fct):Prop:=(x.sh.hs.length≤100∧x.sh.asn.length≤100∧x.sh.hc.length≤100∧x.sh.ac.length≤100)∧x.eClubs.length≤100∧x.lO.length≤100∧x.eRules.length≤100
theorem FAt.small1 {h:Ro}{s:Fsh}{x:Fct}(a:FAt h s x)(b:FSm1 x):s.hs.n≤100∧s.asn.n≤100∧s.hc.n≤100∧s.ac.n≤100∧s.cl.n≤100∧s.lo.n≤100:=by
 have h1:=a.sh.hs.len;have h2:=a.sh.asn.len;have h3:=a.sh.hc.len;have h4:=a.sh.ac.len;have h5:=a.cl.len;have h6:=a.lo.len
 obtain ⟨⟨b1,b2,b3,b4⟩,b5,b6,b7⟩:=b
 omega
theorem Yt.len {s:List UInt8}(a:Yt s):s.length≤24:=a.2.1
theorem Cg.sm1 {f:Fct}(a:Cg f):FSm1 f:=by
 obtain ⟨-,-,hc,ho⟩:=a
 unfold Fb at hc
 unfold Nr at ho
 unfold FSm1
 have hz:∀ x:Fct,f=x→x.sh=f.sh∧x.eClubs=f.eClubs∧x.lO=f.lO∧x.eRules=f.eRules:=fun x e=>by rw [e];exact ⟨rfl,rfl,rfl,rfl⟩
 by_cases h1:f.kind=1
 · rw [if_pos h1] at hc
   simp only [if_pos h1] at ho
   obtain ⟨q1,q2,q3,q4⟩:=hz _ ho.symm
   rw [← q1,← q3]
   have hr:f.eRules.length≤100:=by
    have:=hc.2.2.2.2
    split at this
    · have:=this.len;omega
    · rw [this];simp
   have:=hc.2.2.1.2.1
   exact ⟨by simp [Jp,Ki],by omega,by simp [Jp],hr⟩
 rw [if_neg h1] at hc
 simp only [if_neg h1] at ho
 by_cases h2:f.kind=2
 · simp only [if_pos h2] at ho
   obtain ⟨q1,q2,q3,q4⟩:=hz _ ho.symm
   rw [← q1,← q2,← q3,← q4]
   simp [Jp,Ki]
 rw [if_neg h2] at hc
 simp only [if_neg h2] at ho
 by_cases h3:f.kind=3
 · rw [if_pos h3] at hc
   simp only [if_pos h3] at ho
   obtain ⟨q1,q2,q3,q4⟩:=hz _ ho.symm
   rw [← q2,← q3,← q4]
   obtain ⟨-,-,-,-,-,a1,a2,a3,a4,-⟩:=hc
   have b1:=a1.1
   have b2:=a2.1
   have b3:=a3.1
   have b4:=a4.1
   exact ⟨⟨by omega,by omega,by omega,by omega⟩,by simp [Jp],by simp [Jp],by simp [Jp]⟩
 rw [if_neg h3] at hc
 simp only [if_neg h3] at ho
 by_cases h4:f.kind=4
 · simp only [if_pos h4] at ho
   obtain ⟨q1,q2,q3,q4⟩:=hz _ ho.symm
   rw [← q1,← q2,← q3,← q4]
   simp [Jp,Ki]
 rw [if_neg h4] at hc
 simp only [if_neg h4] at ho
 by_cases h5:f.kind=5
 · simp only [if_pos h5] at ho
   obtain ⟨q1,q2,q3,q4⟩:=hz _ ho.symm
   rw [← q1,← q2,← q3,← q4]
   simp [Jp,Ki]
 rw [if_neg h5] at hc
 simp only [if_neg h5] at ho
 by_cases h6:f.kind=6
 · simp only [if_pos h6] at ho
   obtain ⟨q1,q2,q3,q4⟩:=hz _ ho.symm
   rw [← q1,← q2,← q3,← q4]
   simp [Jp,Ki]
 rw [if_neg h6] at hc
 simp only [if_neg h6] at ho
 by_cases h7:f.kind=7
 · rw [if_pos h7] at hc
   simp only [if_pos h7] at ho
   obtain ⟨q1,q2,q3,q4⟩:=hz _ ho.symm
   rw [← q1,← q2,← q4]
   have:=hc.2.2.1.2.1
   exact ⟨by simp [Jp,Ki],by simp [Jp],by omega,by simp [Jp]⟩
 simp only [if_neg h7] at ho
 obtain ⟨q1,q2,q3,q4⟩:=hz _ ho.symm
 rw [← q1,← q2,← q3,← q4]
 simp [Jp,Ki]
theorem Vl.nil (h:Ro):Vl h Nv Ki:=⟨Cc.nil,Cc.nil,Cc.nil,Cc.nil⟩
theorem FAt.nil (h:Ro):FAt h Nv Jp:=⟨Vl.nil h,Cc.nil,Cc.nil,rfl,Nat.le_refl _⟩
def Bx (p:Fsh×Fct):List Value:=Dx p.1 p.2
theorem Bv (p:Fsh×Fct):(Bx p).length=82:=rfl
end Go.Hw
set_option maxRecDepth 100000
set_option maxHeartbeats 1600000
namespace Go.Hw
open Go
attribute [local irreducible] GO GOl GDp Val Fn Res At Fx Blk By Dk Cl Has
open Go.Proofs (Tryz.prog)
theorem Nd (h:Ro)(n m:Int):Val Tryz.prog 90 #[.int .i64 n,.int .i64 m] h (.bool (decide (Bel n m))):=by
 refine Az (args:=[_,_]) ts_ok Go.Proofs.Tryz.func90 rfl rfl fun w0 X0 => ?_
 repeat' (first|apply Ac|apply Aa|apply Ab|(apply Aw;exact J;exact J)|(apply Ad;(iterate 3 exact J))|(apply Ba;exact J;exact J;all_goals (intro hc;try simp only [hcS,reduceCtorEq] at hc;try (exfalso;omega)))|(apply Bb;(iterate 3 exact J)))
 all_goals (simp only [Xe,Value.bool.injEq];first|(rw [decide_eq_decide];unfold Bel;omega)|(symm;rw [decide_eq_false_iff_not];unfold Bel;omega))
theorem Qy (h:Ro)(n:Int):Val Tryz.prog 52 #[.int .i64 n] h (.bool (decide (Bel n 192))):=by
 refine Az (args:=[_]) ts_ok Go.Proofs.Tryz.func52 rfl rfl fun w0 X0 => ?_
 repeat' (first|apply Ac|apply Aa|apply Ab|(apply Ad;(iterate 3 exact J))|(apply Af;(iterate 3 exact J);(first|(apply Aq;exact J;exact Hba;exact Nd _ _ _;skip)))|(apply Bb;(iterate 3 exact J)))
 all_goals rfl
theorem Wy (h:Ro)(n:Int):Val Tryz.prog 135 #[.int .i64 n] h (.bool (decide (Bel n 8192))):=by
 refine Az (args:=[_]) ts_ok Go.Proofs.Tryz.func135 rfl rfl fun w0 X0 => ?_
 repeat' (first|apply Ac|apply Aa|apply Ab|(apply Ad;(iterate 3 exact J))|(apply Af;(iterate 3 exact J);(first|(apply Aq;exact J;exact Hba;exact Nd _ _ _;skip)))|(apply Bb;(iterate 3 exact J)))
 all_goals rfl
theorem J1a (h:Ro)(n:Int):Val Tryz.prog 176 #[.int .i64 n] h (.bool (decide (Bel n 100))):=by
 refine Az (args:=[_]) ts_ok Go.Proofs.Tryz.func176 rfl rfl fun w0 X0 => ?_
 repeat' (first|apply Ac|apply Aa|apply Ab|(apply Ad;(iterate 3 exact J))|(apply Af;(iterate 3 exact J);(first|(apply Aq;exact J;exact Hba;exact Nd _ _ _;skip)))|(apply Bb;(iterate 3 exact J)))
 all_goals rfl
theorem day7_c (h:Ro)(n:Int):Val Tryz.prog 83 #[.int .i64 n] h (.bool (decide (Bel n 1048577))):=by
 refine Az (args:=[_]) ts_ok Go.Proofs.Tryz.func83 rfl rfl fun w0 X0 => ?_
 repeat' (first|apply Ac|apply Aa|apply Ab|(apply Ad;(iterate 3 exact J))|(apply Af;(iterate 3 exact J);(first|(apply Aq;exact J;exact Hba;exact Nd _ _ _;skip)))|(apply Bb;(iterate 3 exact J)))
 all_goals rfl
theorem Pk (h:Ro)(n m:Int):Val Tryz.prog 51 #[.int .i64 n,.int .i64 m] h (.bool (decide (Bel n 64∧Bel m 16))):=by
 refine Az (args:=[_,_]) ts_ok Go.Proofs.Tryz.func51 rfl rfl fun w0 X0 => ?_
 repeat' (first|apply Ac|apply Aa|apply Ab|(apply Aw;exact J;exact J)|(apply Ad;(iterate 3 exact J))|(apply Af;(iterate 3 exact J);(first|(apply Aq;exact J;exact Hba;exact Nd _ _ _;skip)))|(apply Ba;exact J;exact J;all_goals (intro hc;try simp only [hcS,reduceCtorEq] at hc;try (exfalso;omega)))|(apply Bb;(iterate 3 exact J)))
 all_goals (simp only [Value.bool.injEq];first|(rw [decide_eq_decide];simp [*];done)|(symm;rw [decide_eq_false_iff_not];simp [*];done))
theorem Xr (h:Ro)(g:Bl):Val Tryz.prog 20 #[Fr g] h (.int .i64 (if Fd g then 0 else 70)):=by
 refine Az (args:=[_]) ts_ok Go.Proofs.Tryz.func20 rfl rfl fun w0 X0 => ?_
 repeat' (first|apply Ac|apply Au|apply Aa|apply Ab|(apply Aw;exact J;exact J)|(apply Ad;(iterate 3 exact J))|(apply Ai;exact J;exact Av rfl QM rfl;exact J;exact J)|(apply Af;(iterate 3 exact J);(first|(apply Ao;exact J;intro b;skip)|(apply Aq;exact J;exact has51;exact Pk _ _ _;skip)|(apply Aq;exact J;exact Hda;exact Qy _ _;skip)))|(apply Aj;exact J;all_goals (intro hc;try simp only [hcS,reduceCtorEq] at hc;try (exfalso;omega)))|(apply Ba;exact J;exact J;all_goals (intro hc;try simp only [hcS,reduceCtorEq] at hc;try (exfalso;omega)))|(apply Bb;(iterate 3 exact J)))
 all_goals (first|(rw [if_neg (by unfold Fd;simp_all)];done)|(rw [if_pos (by unfold Fd;simp_all)];done))
theorem getD_ge {xs:List Int}:Cva xs↔∀ i,0<i→i<xs.length→xs.getD (i-1) 0<xs.getD i 0:=by
 constructor
 · intro h i h0 hi
   unfold Cva at h
   rw [List.pairwise_iff_getElem] at h
   have:=h (i-1) i (by omega) hi (by omega)
   simpa [List.getD,List.getElem?_eq_getElem hi,List.getElem?_eq_getElem (show i-1<xs.length by omega)] using this
 · intro h
   unfold Cva
   induction xs with
   | nil=>exact .nil
   | cons a r ih =>
     have hr:=ih (fun i h0 hi=>by
      have:=h (i+1) (by omega) (by simpa using hi)
      simp only [Nat.add_sub_cancel,List.getD_cons_succ] at this
      obtain ⟨j,rfl⟩:∃ j,i=j+1:=⟨i-1,by omega⟩
      simpa using this)
     refine .cons (fun b hb => ?_) hr
     cases r with
     | nil=>cases hb
     | cons c r =>
       have h1:a<c:=by have:=h 1 (by omega) (by simp);simpa using this
       rw [List.pairwise_cons] at hr
       rcases List.mem_cons.1 hb with e|e
       · rw [e];exact h1
       · exact Int.lt_trans h1 (hr.1 b e)
open Classical in
theorem incr7_c (h:Ro)(A:Option Addr)(n c:Nat)(xs:List Int)(hx:Cc Ex 1 h A n xs)(hn:n≤9223372036854775807) :
  Val Tryz.prog 173 #[.slice A n c] h (.bool (decide (Cva xs))):=by
 refine Az (args:=[_]) ts_ok Go.Proofs.Tryz.func173 rfl rfl fun w0 X0 => ?_
 have hlen:=hx.len
 repeat' (first|apply Ac|apply Ak|apply Aa|apply Ab|(apply Ad;(iterate 3 exact J)))
 refine Bt (X:=Nat) (fun k=>1≤k∧(k≤n∨k=1)∧∀ i,0<i→i<k→i<xs.length→xs.getD (i-1) 0<xs.getD i 0) (fun k=>n+1-k) (fun k=>[(3,.int .i64 k),(0,.slice A n c)]) (fun _=>[]) (fun _=>h) 1 ⟨by omega,by omega,fun i h0 h1=>by omega⟩ QS QT rfl ?_
 rintro k ⟨hk1,hk,hI⟩ ih
 by_cases hkn:k<n
 · have a1:=hx.addrD hkn
   have c1:=hx.cellsD 0 hkn
   have c2:=hx.cellsD 0 (show k-1<n by omega)
   have hs:=hI k
   generalize hg1:xs.getD k 0=u at *
   generalize hg2:xs.getD (k-1) 0=v at *
   repeat' (first|apply Ac|apply Au|apply Ap|apply Ak|apply Aa|apply Ab|(apply Bg;(iterate 3 exact J);omega;exact J;exact J)|(apply Ad;(iterate 3 exact J))|(apply Bf (n:=4) [0,1,2,3,4,5,6,7,8,9] [(0,0),(1,0),(2,0),(3,0),(4,0),(5,0),(6,0),(7,0),(8,0),(9,0)];kernel_rfl)|(apply Vb;exact J;kernel_rfl;(iterate 5 exact J);omega)|(apply Ce;exact J;kernel_rfl;(iterate 3 exact J))|(apply De;exact J;kernel_rfl;exact J;exact J;(first|(apply Be (j:=k);(iterate 5 exact J);exact a1;(with_reducible exact J);omega)|(apply Be (j:=k-1);(iterate 5 exact J);exact a1;omega;omega)|(apply Ar;exact J;exact Bh rfl c1 rfl)|(apply Ar;exact J;exact Bh rfl c2 rfl));exact QA)|(apply Bm;kernel_rfl;exact J)|(apply Aj;exact J;all_goals (intro hc;try simp only [hcS,reduceCtorEq] at hc;try (exfalso;omega))))
   · (first|(apply Bb;(iterate 3 exact J)))
     rw [decide_eq_false];intro hh;have:=getD_ge.1 hh k (by omega) (by omega);omega
   · have h3:=ih (k+1) ⟨by omega,by omega,fun i h0 h1 h2=>by
      by_cases e:i=k
      · subst e;rw [hg1,hg2];assumption
      · exact hI i h0 (by omega) h2⟩ (by omega)
     refine Bw QS QT (h3)
 · repeat' (first|apply Ac|apply Aa|apply Ab|(apply Bn;exact J)|(apply Ad;(iterate 3 exact J))|(apply Aj;exact J;all_goals (intro hc;try simp only [hcS,reduceCtorEq] at hc;try (exfalso;omega)))|(apply Bb;(iterate 3 exact J)))
   rw [decide_eq_true];exact getD_ge.2 fun i h0 h1=>hI i h0 (by omega) h1
end Go.Hw
namespace Go.Hw
open Go
attribute [local irreducible] GO GOl GDp Val Fn Res At Fx Blk By Dk Cl Has
open Go.Proofs (Tryz.prog)
theorem Si {b:Bool}{p:Prop}{inst:Decidable p}(h:b=true↔p):b=decide p:=by
 rw [Bool.eq_iff_iff,decide_eq_true_eq];exact h
theorem Dg {b:Bool}{p:Prop}{inst:Decidable p}(h:b=true↔p):Value.bool b=Value.bool (decide p):=by
 rw [Si h]
def Jy {α:Type} (p:α→Bool):List α→Nat→Int
 | [],_ => -1
 | x::r,k=>if p x then k else Jy p r (k+1)
theorem Iq {α:Type}(p:α→Bool):∀ (l:List α) (k:Nat),0≤Jy p l k↔l.any p=true
 | [],k=>by simp [Jy]
 | a::r,k=>by
   have:=Iq p r (k+1)
   by_cases h:p a
   · simp [Jy,h]
   · simp [Jy,h,this]
theorem Zd {α:Type}(d:α){xs:List α}{k n:Nat}(hlen:xs.length=n)(hk:k<n):xs.drop k=xs.getD k d::xs.drop (k+1):=by
 rw [List.drop_eq_getElem_cons (by omega)];simp [List.getD,List.getElem?_eq_getElem (show k<xs.length by omega)]
theorem Fq {α:Type}(d:α){xs:List α}{k n:Nat}(hlen:xs.length=n)(hk:k<n):xs.take (k+1)=xs.take k++[xs.getD k d]:=by
 rw [List.take_add_one];simp [List.getD,List.getElem?_eq_getElem (show k<xs.length by omega)]
theorem mem7 {α:Type}(d:α){xs:List α}{k:Nat}(hk:k<xs.length):xs.getD k d∈xs:=by
 simp [List.getD,List.getElem?_eq_getElem hk]
theorem idxFI_c (h:Ro)(A:Option Addr)(n c:Nat)(l:List Int)(hx:Cc Ex 1 h A n l)(hn:n≤9223372036854775807)(f:FuncId)(fs cs:List Value)(p:Int→Bool)(hh:Has Tryz.prog f)
  (hf:∀ x∈l,Val Tryz.prog f (fs++[Value.int .i64 x]++cs).toArray h (.bool (p x))) :
  Val Tryz.prog 119 #[.slice A n c,.func (.func f) fs.toArray cs.toArray] h (.int .i64 (Jy p l 0)):=by
 refine Az (args:=[_,_]) ts_ok Go.Proofs.Tryz.func119 rfl rfl fun w0 X0 => ?_
 have hlen:=hx.len
 repeat' (first|apply Ac|apply Ak|apply Aa|apply Ab|(apply Ad;(iterate 3 exact J)))
 refine Bt (X:=Nat) (fun k=>k≤n∧Jy p (l.drop k) k=Jy p l 0) (fun k=>n-k) (fun k=>[(8,.int .i64 k),(7,.int .i64 n),(0,.slice A n c),(1,.func (.func f) fs.toArray cs.toArray)]) (fun _=>[]) (fun _=>h) 0 ⟨by omega,rfl⟩ QS QT rfl ?_
 rintro k ⟨hk,hI⟩ ih
 by_cases hkn:k<n
 · have a1:=hx.addrD hkn
   have c1:=hx.cellsD 0 hkn
   have hd:=Zd 0 hlen hkn
   have hv:=hf _ (mem7 0 (show k<l.length by omega))
   generalize l.getD k 0=x at *
   repeat' (first|apply Ac|apply Au|apply Ap|apply Ak|apply Aa|apply Ab|(apply Bg;(iterate 3 exact J);omega;exact J;exact J)|(apply Ad;(iterate 3 exact J))|(apply Bd;exact J;exact J;(first|(apply Be (j:=k);(iterate 5 exact J);exact a1;(with_reducible exact J);omega)|(apply Ar;exact J;exact Bh rfl c1 rfl));exact QA)|(apply Af;(iterate 3 exact J);(first|(apply Cd (f:=f) (fs:=fs) (cs:=cs);exact J;exact J;exact hh;exact hv;skip)))|(apply Aj;exact J;all_goals (intro hc;try simp only [hcS,reduceCtorEq] at hc;try (exfalso;omega)))|(apply Bb;(iterate 3 exact J)))
   · rw [← hI,hd,Jy,if_pos hc]
   · have h3:=ih (k+1) ⟨by omega,by rw [← hI,hd,Jy,if_neg (by simp [hc])]⟩ (by omega)
     refine Bw QS QT (h3)
 · repeat' (first|apply Ac|apply Aa|apply Ab|(apply Bn;exact J)|(apply Ad;(iterate 3 exact J))|(apply Aj;exact J;all_goals (intro hc;try simp only [hcS,reduceCtorEq] at hc;try (exfalso;omega)))|(apply Bb;(iterate 3 exact J)))
   rw [← hI,show k=l.length by omega,List.drop_length];rfl
theorem Cca (h:Ro)(A:Option Addr)(n c:Nat)(l:List Int)(hx:Cc Ex 1 h A n l)(hn:n≤9223372036854775807)(f:FuncId)(fs cs:List Value)(p:Int→Bool)(hh:Has Tryz.prog f)
  (hf:∀ x∈l,Val Tryz.prog f (fs++[Value.int .i64 x]++cs).toArray h (.bool (p x))) :
  Val Tryz.prog 78 #[.slice A n c,.func (.func f) fs.toArray cs.toArray] h (.bool (l.any p)):=by
 refine Az (args:=[_,_]) ts_ok Go.Proofs.Tryz.func78 rfl rfl fun w0 X0 => ?_
 repeat' (first|apply Ac|apply Aa|apply Ab|(apply Ad;(iterate 3 exact J))|(apply Af;(iterate 3 exact J);(first|(apply Aq;exact J;exact has119;exact idxFI_c _ _ _ _ _ hx hn f fs cs p hh hf;skip)))|(apply Bb;(iterate 3 exact J)))
 rw [Up];congr 1;rw [Bool.eq_iff_iff,decide_eq_true_eq];exact Iq _ _ _
def cardV (c:Fy):Value:=.agg (Aoa c).toArray
def Kr:Fy:=⟨0,false⟩
theorem idxFC_c (h:Ro)(A:Option Addr)(n c:Nat)(l:List Fy)(hx:Cc Aoa 2 h A n l)(hn:n≤9223372036854775807)(f:FuncId)(fs cs:List Value)(p:Fy→Bool)(hh:Has Tryz.prog f)
  (hf:∀ x∈l,Val Tryz.prog f (fs++[cardV x]++cs).toArray h (.bool (p x))) :
  Val Tryz.prog 256 #[.slice A n c,.func (.func f) fs.toArray cs.toArray] h (.int .i64 (Jy p l 0)):=by
 refine Az (args:=[_,_]) ts_ok Go.Proofs.Tryz.func256 rfl rfl fun w0 X0 => ?_
 have hlen:=hx.len
 repeat' (first|apply Ac|apply Ak|apply Aa|apply Ab|(apply Ad;(iterate 3 exact J)))
 refine Bt (X:=Nat) (fun k=>k≤n∧Jy p (l.drop k) k=Jy p l 0) (fun k=>n-k) (fun k=>[(8,.int .i64 k),(7,.int .i64 n),(0,.slice A n c),(1,.func (.func f) fs.toArray cs.toArray)]) (fun _=>[]) (fun _=>h) 0 ⟨by omega,rfl⟩ QS QT rfl ?_
 rintro k ⟨hk,hI⟩ ih
 by_cases hkn:k<n
 · have a1:=hx.addrD hkn
   have c1:=hx.cellsD Kr hkn
   have hd:=Zd Kr hlen hkn
   have hv:=hf _ (mem7 Kr (show k<l.length by omega))
   generalize l.getD k Kr=x at *
   repeat' (first|apply Ac|apply Au|apply Ap|apply Ak|apply Aa|apply Ab|(apply Bg;(iterate 3 exact J);omega;exact J;exact J)|(apply Ad;(iterate 3 exact J))|(apply Bd;exact J;exact J;(first|(apply Be (j:=k);(iterate 5 exact J);exact a1;(with_reducible exact J);omega)|(apply Ar;exact J;exact Bh rfl c1 rfl));exact QA)|(apply Af;(iterate 3 exact J);(first|(apply Cd (f:=f) (fs:=fs) (cs:=cs);exact J;exact J;exact hh;exact hv;skip)))|(apply Aj;exact J;all_goals (intro hc;try simp only [hcS,reduceCtorEq] at hc;try (exfalso;omega)))|(apply Bb;(iterate 3 exact J)))
   · rw [← hI,hd,Jy,if_pos hc]
   · have h3:=ih (k+1) ⟨by omega,by rw [← hI,hd,Jy,if_neg (by simp [hc])]⟩ (by omega)
     refine Bw QS QT (h3)
 · repeat' (first|apply Ac|apply Aa|apply Ab|(apply Bn;exact J)|(apply Ad;(iterate 3 exact J))|(apply Aj;exact J;all_goals (intro hc;try simp only [hcS,reduceCtorEq] at hc;try (exfalso;omega)))|(apply Bb;(iterate 3 exact J)))
   rw [← hI,show k=l.length by omega,List.drop_length];rfl
theorem conFC_c (h:Ro)(A:Option Addr)(n c:Nat)(l:List Fy)(hx:Cc Aoa 2 h A n l)(hn:n≤9223372036854775807)(f:FuncId)(fs cs:List Value)(p:Fy→Bool)(hh:Has Tryz.prog f)
  (hf:∀ x∈l,Val Tryz.prog f (fs++[cardV x]++cs).toArray h (.bool (p x))) :
  Val Tryz.prog 217 #[.slice A n c,.func (.func f) fs.toArray cs.toArray] h (.bool (l.any p)):=by
 refine Az (args:=[_,_]) ts_ok Go.Proofs.Tryz.func217 rfl rfl fun w0 X0 => ?_
 repeat' (first|apply Ac|apply Aa|apply Ab|(apply Ad;(iterate 3 exact J))|(apply Af;(iterate 3 exact J);(first|(apply Aq;exact J;exact has256;exact idxFC_c _ _ _ _ _ hx hn f fs cs p hh hf;skip)))|(apply Bb;(iterate 3 exact J)))
 rw [Up];congr 1;rw [Bool.eq_iff_iff,decide_eq_true_eq];exact Iq _ _ _
theorem idxI7_c (h:Ro)(A:Option Addr)(n c:Nat)(l:List Int)(hx:Cc Ex 1 h A n l)(hn:n≤9223372036854775807)(v:Int) :
  Val Tryz.prog 219 #[.slice A n c,.int .i64 v] h (.int .i64 (Jy (fun x=>decide (x=v)) l 0)):=by
 refine Az (args:=[_,_]) ts_ok Go.Proofs.Tryz.func219 rfl rfl fun w0 X0 => ?_
 have hlen:=hx.len
 repeat' (first|apply Ac|apply Ak|apply Aa|apply Ab|(apply Ad;(iterate 3 exact J)))
 refine Bt (X:=Nat) (fun k=>k≤n∧Jy (fun x=>decide (x=v)) (l.drop k) k=Jy (fun x=>decide (x=v)) l 0) (fun k=>n-k) (fun k=>[(8,.int .i64 k),(7,.int .i64 n),(0,.slice A n c),(1,.int .i64 v)]) (fun _=>[]) (fun _=>h) 0 ⟨by omega,rfl⟩ QS QT rfl ?_
 rintro k ⟨hk,hI⟩ ih
 by_cases hkn:k<n
 · have a1:=hx.addrD hkn
   have c1:=hx.cellsD 0 hkn
   have hd:=Zd 0 hlen hkn
   generalize l.getD k 0=x at *
   repeat' (first|apply Ac|apply Au|apply Ap|apply Ak|apply Aa|apply Ab|(apply Bg;(iterate 3 exact J);omega;exact J;exact J)|(apply Ad;(iterate 3 exact J))|(apply Bd;exact J;exact J;(first|(apply Be (j:=k);(iterate 5 exact J);exact a1;(with_reducible exact J);omega)|(apply Ar;exact J;exact Bh rfl c1 rfl));exact QA)|(apply Aj;exact J;all_goals (intro hc;try simp only [hcS,reduceCtorEq] at hc;try (exfalso;omega)))|(apply Bb;(iterate 3 exact J)))
   all_goals first
    | (rw [← hI,hd,Jy,if_pos (by simp;omega)];done)
    | (have h3:=ih (k+1) ⟨by omega,by rw [← hI,hd,Jy,if_neg (by simp;omega)]⟩ (by omega)
       refine Bw QS QT (h3))
 · repeat' (first|apply Ac|apply Aa|apply Ab|(apply Bn;exact J)|(apply Ad;(iterate 3 exact J))|(apply Aj;exact J;all_goals (intro hc;try simp only [hcS,reduceCtorEq] at hc;try (exfalso;omega)))|(apply Bb;(iterate 3 exact J)))
   rw [← hI,show k=l.length by omega,List.drop_length];rfl
theorem con7_c (h:Ro)(A:Option Addr)(n c:Nat)(l:List Int)(hx:Cc Ex 1 h A n l)(hn:n≤9223372036854775807)(v:Int) :
  Val Tryz.prog 179 #[.slice A n c,.int .i64 v] h (.bool (decide (v∈l))):=by
 refine Az (args:=[_,_]) ts_ok Go.Proofs.Tryz.func179 rfl rfl fun w0 X0 => ?_
 repeat' (first|apply Ac|apply Aa|apply Ab|(apply Ad;(iterate 3 exact J))|(apply Af;(iterate 3 exact J);(first|(apply Aq;exact J;exact has219;exact idxI7_c _ _ _ _ _ hx hn _;skip)))|(apply Bb;(iterate 3 exact J)))
 rw [Up];congr 1;rw [decide_eq_decide,Iq,List.any_eq_true]
 constructor
 · rintro ⟨x,hx,h2⟩;simp at h2;subst h2;exact hx
 · intro hh;exact ⟨v,hh,by simp⟩
theorem Mz (h:Ro)(A:Option Addr)(n c:Nat)(l:List Int)(hx:Cc Ex 1 h A n l)(hn:n≤9223372036854775807)(B:Option Addr)(m d:Nat)(r:List Int)(hy:Cc Ex 1 h B m r)(hm:m≤9223372036854775807) :
  Val Tryz.prog 48 #[.slice A n c,.slice B m d] h (.bool (decide (l=r))):=by
 refine Az (args:=[_,_]) ts_ok Go.Proofs.Tryz.func48 rfl rfl fun w0 X0 => ?_
 have hlen:=hx.len
 have hlen2:=hy.len
 by_cases hnm:n=m
 · subst hnm
   repeat' (first|apply Ac|apply Au|apply Ak|apply Aa|apply Ab|(apply Ad;(iterate 3 exact J))|(apply Aj;exact J;all_goals (intro hc;try simp only [hcS,reduceCtorEq] at hc;try (exfalso;omega))))
   · refine Bt (X:=Nat) (fun k=>k≤n∧l.take k=r.take k) (fun k=>n-k) (fun k=>[(13,.int .i64 k),(12,.int .i64 n),(0,.slice A n c),(1,.slice B n d)]) (fun _=>[]) (fun _=>h) 0 ⟨by omega,rfl⟩ QS QT rfl ?_
     rintro k ⟨hk,hI⟩ ih
     by_cases hkn:k<n
     · have a1:=hx.addrD hkn
       have c1:=hx.cellsD 0 hkn
       have a2:=hy.addrD hkn
       have c2:=hy.cellsD 0 hkn
       have ht1:=Fq 0 hlen hkn
       have ht2:=Fq 0 hlen2 hkn
       have hne:l.getD k 0≠r.getD k 0→l≠r:=fun h1 h2=>h1 (by rw [h2])
       generalize l.getD k 0=u at *
       generalize r.getD k 0=v at *
       repeat' (first|apply Ac|apply Au|apply Ap|apply Ak|apply Aa|apply Ab|(apply Bg;(iterate 3 exact J);omega;exact J;exact J)|(apply Ad;(iterate 3 exact J))|(apply Bf (n:=6) [0,1,2,3,4,5,6,7,8] [(0,0),(1,0),(2,0),(3,0),(4,0),(5,0),(6,0),(7,0),(8,0)];kernel_rfl)|(apply Ce;exact J;kernel_rfl;(iterate 3 exact J))|(apply De;exact J;kernel_rfl;exact J;exact J;(first|(apply Be (j:=k);(iterate 5 exact J);exact a1;(with_reducible exact J);omega)|(apply Be (j:=k);(iterate 5 exact J);exact a2;(with_reducible exact J);omega)|(apply Ar;exact J;exact Bh rfl c1 rfl)|(apply Ar;exact J;exact Bh rfl c2 rfl));exact QA)|(apply Bm;kernel_rfl;exact J)|(apply Aj;exact J;all_goals (intro hc;try simp only [hcS,reduceCtorEq] at hc;try (exfalso;omega))))
       · (first|(apply Bb;(iterate 3 exact J)))
         rw [decide_eq_false (hne (by omega))]
       · have h3:=ih (k+1) ⟨by omega,by have e5:u=v:=(by omega);rw [ht1,ht2,hI,e5]⟩ (by omega)
         refine Bw QS QT (h3)
     · repeat' (first|apply Ac|apply Aa|apply Ab|(apply Bn;exact J)|(apply Ad;(iterate 3 exact J))|(apply Aj;exact J;all_goals (intro hc;try simp only [hcS,reduceCtorEq] at hc;try (exfalso;omega)))|(apply Bb;(iterate 3 exact J)))
       rw [List.take_of_length_le (by omega),List.take_of_length_le (by omega)] at hI
       rw [decide_eq_true hI]
 · repeat' (first|apply Ac|apply Aa|apply Ab|(apply Ad;(iterate 3 exact J))|(apply Aj;exact J;all_goals (intro hc;try simp only [hcS,reduceCtorEq] at hc;try (exfalso;omega)))|(apply Bb;(iterate 3 exact J)))
   rw [decide_eq_false];intro hh;subst hh;omega
theorem Vx (h:Ro)(A:Option Addr)(n c:Nat)(l:List Fy)(hx:Cc Aoa 2 h A n l)(hn:n≤9223372036854775807)(B:Option Addr)(m d:Nat)(r:List Fy)(hy:Cc Aoa 2 h B m r)(hm:m≤9223372036854775807) :
  Val Tryz.prog 142 #[.slice A n c,.slice B m d] h (.bool (decide (l=r))):=by
 refine Az (args:=[_,_]) ts_ok Go.Proofs.Tryz.func142 rfl rfl fun w0 X0 => ?_
 have hlen:=hx.len
 have hlen2:=hy.len
 by_cases hnm:n=m
 · subst hnm
   repeat' (first|apply Ac|apply Au|apply Ak|apply Aa|apply Ab|(apply Ad;(iterate 3 exact J))|(apply Aj;exact J;all_goals (intro hc;try simp only [hcS,reduceCtorEq] at hc;try (exfalso;omega))))
   · refine Bt (X:=Nat) (fun k=>k≤n∧l.take k=r.take k) (fun k=>n-k) (fun k=>[(13,.int .i64 k),(12,.int .i64 n),(0,.slice A n c),(1,.slice B n d)]) (fun _=>[]) (fun _=>h) 0 ⟨by omega,rfl⟩ QS QT rfl ?_
     rintro k ⟨hk,hI⟩ ih
     by_cases hkn:k<n
     · have a1:=hx.addrD hkn
       have c1:=hx.cellsD Kr hkn
       have a2:=hy.addrD hkn
       have c2:=hy.cellsD Kr hkn
       have ht1:=Fq Kr hlen hkn
       have ht2:=Fq Kr hlen2 hkn
       have hne:l.getD k Kr≠r.getD k Kr→l≠r:=fun h1 h2=>h1 (by rw [h2])
       generalize l.getD k Kr=u at *
       generalize r.getD k Kr=v at *
       obtain ⟨up,ur⟩:=u
       obtain ⟨vp,vr⟩:=v
       repeat' (first|apply Ac|apply Au|apply Ap|apply Ak|apply Aa|apply Ab|(apply Bg;(iterate 3 exact J);omega;exact J;exact J)|(apply Ad;(iterate 3 exact J))|(apply Bf (n:=6) [0,1,2,3,4,5,6,7,8] [(0,0),(1,0),(2,0),(3,0),(4,0),(5,0),(6,0),(7,0),(8,0)];kernel_rfl)|(apply Ce;exact J;kernel_rfl;(iterate 3 exact J))|(apply De;exact J;kernel_rfl;exact J;exact J;(first|(apply Be (j:=k);(iterate 5 exact J);exact a1;(with_reducible exact J);omega)|(apply Be (j:=k);(iterate 5 exact J);exact a2;(with_reducible exact J);omega)|(apply Ar;exact J;exact Bh rfl c1 rfl)|(apply Ar;exact J;exact Bh rfl c2 rfl)|(apply Ipa;(iterate 3 exact J);kernel_rfl;kernel_rfl));exact QA)|(apply Bm;kernel_rfl;exact J)|(apply Aj;exact J;all_goals (intro hc;try simp only [hcS,reduceCtorEq] at hc;try (exfalso;omega))))
       · (first|(apply Bb;(iterate 3 exact J)))
         rw [decide_eq_false (hne (by rintro e;injection e with e1 e2;subst e1;subst e2;simp [Hm] at hc))]
       · have h3:=ih (k+1) ⟨by omega,by
          simp [Hm] at hc
          rw [ht1,ht2,hI,hc.1,hc.2]⟩ (by omega)
         refine Bw QS QT (h3)
     · repeat' (first|apply Ac|apply Aa|apply Ab|(apply Bn;exact J)|(apply Ad;(iterate 3 exact J))|(apply Aj;exact J;all_goals (intro hc;try simp only [hcS,reduceCtorEq] at hc;try (exfalso;omega)))|(apply Bb;(iterate 3 exact J)))
       rw [List.take_of_length_le (by omega),List.take_of_length_le (by omega)] at hI
       rw [decide_eq_true hI]
 · repeat' (first|apply Ac|apply Aa|apply Ab|(apply Ad;(iterate 3 exact J))|(apply Aj;exact J;all_goals (intro hc;try simp only [hcS,reduceCtorEq] at hc;try (exfalso;omega)))|(apply Bb;(iterate 3 exact J)))
   rw [decide_eq_false];intro hh;subst hh;omega
end Go.Hw
set_option maxHeartbeats 4000000
namespace Go.Hw
open Go
attribute [local irreducible] GO GOl GDp Val Fn Res At Fx Blk By Dk Cl Has
open Go.Proofs (Tryz.prog)
theorem all1_c (h:Ro)(b:Nat)(g:FuncId)(p:Int→Bool)(hg:Has Tryz.prog g)(hv:∀ h x,Val Tryz.prog g #[.int .i64 x] h (.bool (p x)))(hc:At h ⟨b,0,none⟩ [.func (.func g) #[] #[]])(x:Int) :
  Val Tryz.prog 216 #[.int .i64 x,.pointer (some ⟨b,0,none⟩)] h (.bool (!p x)):=by
 refine Az (args:=[_,_]) ts_ok Go.Proofs.Tryz.func216 rfl rfl fun w0 X0 => ?_
 repeat' (first|apply Ac|apply Aa|apply Ab|(apply Ad;(iterate 3 exact J))|(apply Bd;exact J;exact J;(first|(apply Ar;exact J;first|exact Bh rfl (by assumption) rfl|exact Dc rfl (by assumption) rfl|exact Db rfl (by assumption) rfl|exact Lv_roF3 rfl (by assumption) rfl));exact QA)|(apply Af;(iterate 3 exact J);(first|(apply Cd (f:=g) (fs:=[]) (cs:=[]);exact J;exact J;exact hg;exact hv _ _;skip)))|(apply Bb;(iterate 3 exact J)))
 all_goals rfl
theorem all7_c (h:Ro)(A:Option Addr)(n c:Nat)(xs:List Int)(hx:Cc Ex 1 h A n xs)(hn:n≤9223372036854775807)(lo hi:Int)(g:FuncId)(p:Int→Bool)(hg:Has Tryz.prog g)(hv:∀ h x,Val Tryz.prog g #[.int .i64 x] h (.bool (p x))) :
  Val Tryz.prog 172 #[.slice A n c,.int .i64 lo,.int .i64 hi,.func (.func g) #[] #[]] h (.bool (decide (lo≤(xs.length:Int)∧(xs.length:Int)≤hi∧∀ x∈xs,p x=true))):=by
 refine Az (args:=[_,_,_,_]) ts_ok Go.Proofs.Tryz.func172 rfl rfl fun w0 X0 => ?_
 have hlen:=hx.len
 repeat' (first|apply Ac|apply Aa|apply Ab|(apply Aw;exact J;exact J)|(apply Ad;(iterate 3 exact J))|(apply Af;(iterate 3 exact J);(first|(apply Ao;exact J;intro b;skip)|(refine Cq QK ?_;intro h1 hle1 hc1;apply Aq;exact J;exact has78;exact Cca h1 _ _ _ xs (hx.le hle1) hn 216 [] [.pointer (some ⟨_,0,none⟩)] (fun x => !p x) has216 (fun x _=>all1_c h1 _ g p hg hv hc1 x);skip)))|(apply Ba;exact J;exact J;all_goals (intro hc;try simp only [hcS,reduceCtorEq] at hc;try (exfalso;omega)))|(apply Bb;(iterate 3 exact J)))
 all_goals (subst hlen;simp only [Value.bool.injEq])
 · rw [Bool.eq_iff_iff];simp only [Bool.not_eq_true',List.any_eq_false,decide_eq_true_eq,Bool.not_eq_true,Bool.not_eq_false']
   constructor
   · intro h2;exact ⟨by omega,by omega,fun x hx=>by simpa using h2 x hx⟩
   · intro h2 x hx;simpa using h2.2.2 x hx
 all_goals (symm;rw [decide_eq_false_iff_not];rintro ⟨h1,h2,_⟩;omega)
theorem cards1_c (h:Ro)(b:Nat)(A:Option Addr)(n c:Nat)(sq:List Int)(hx:Cc Ex 1 h A n sq)(hn:n≤9223372036854775807)(hc:At h ⟨b,0,none⟩ [.slice A n c])(x:Fy) :
  Val Tryz.prog 218 #[cardV x,.pointer (some ⟨b,0,none⟩)] h (.bool (!decide (x.p∈sq))):=by
 refine Az (args:=[_,_]) ts_ok Go.Proofs.Tryz.func218 rfl rfl fun w0 X0 => ?_
 repeat' (first|apply Ac|apply Aa|apply Ab|(apply Ad;(iterate 3 exact J))|(apply Ai;exact J;exact Av rfl QM rfl;exact J;exact J)|(apply Bd;exact J;exact J;(first|(apply Ar;exact J;first|exact Bh rfl (by assumption) rfl|exact Dc rfl (by assumption) rfl|exact Db rfl (by assumption) rfl|exact Lv_roF3 rfl (by assumption) rfl));exact QA)|(apply Af;(iterate 3 exact J);(first|(apply Ao;exact J;intro b;skip)|(apply Aq;exact J;exact has179;exact con7_c _ _ _ _ _ hx hn _;skip)))|(apply Bb;(iterate 3 exact J)))
 all_goals rfl
open Classical in
theorem Kja (h:Ro)(A:Option Addr)(n c:Nat)(l:List Fy)(hx:Cc Aoa 2 h A n l)(hn:n≤9223372036854775807)(B:Option Addr)(m d:Nat)(sq:List Int)(hy:Cc Ex 1 h B m sq)(hm:m≤9223372036854775807) :
  Val Tryz.prog 177 #[.slice A n c,.slice B m d] h (.bool (decide (I0a l sq))):=by
 refine Az (args:=[_,_]) ts_ok Go.Proofs.Tryz.func177 rfl rfl fun w0 X0 => ?_
 have hlen:=hx.len
 repeat' (first|apply Ac|apply Aa|apply Ab|(apply Aw;exact J;exact J)|(apply Ad;(iterate 3 exact J))|(apply Af;(iterate 3 exact J);(first|(apply Ao;exact J;intro b;skip)|(refine Cq QK ?_;intro h1 hle1 hc1;apply Aq;exact J;exact has217;exact conFC_c h1 _ _ _ l (hx.le hle1) hn 218 [] [.pointer (some ⟨_,0,none⟩)] (fun x => !decide (x.p∈sq)) has218 (fun x _=>cards1_c h1 _ _ _ _ sq (hy.le hle1) hm hc1 x);skip)))|(apply Ba;exact J;exact J;all_goals (intro hc;try simp only [hcS,reduceCtorEq] at hc;try (exfalso;omega)))|(apply Bb;(iterate 3 exact J)))
 all_goals (subst hlen;simp only [Value.bool.injEq])
 · refine Si ?_
   simp only [Bool.not_eq_true',List.any_eq_false,Bool.not_eq_true,Bool.not_eq_false',decide_eq_true_eq]
   exact ⟨fun h2=>⟨by omega,fun x hx=>by simpa using h2 x hx⟩,fun h2 x hx=>by simpa using h2.2 x hx⟩
 all_goals (symm;rw [decide_eq_false_iff_not];rintro ⟨h1,_⟩;omega)
def Ira (c:UInt8):Prop:=(97≤c.toNat∧c.toNat≤122)∨(48≤c.toNat∧c.toNat≤57)∨c.toNat=95
theorem Mg (s:List UInt8):Yt s↔1≤s.length∧s.length≤24∧(97≤(s.getD 0 0).toNat∧(s.getD 0 0).toNat≤122)∧∀ c∈s,Ira c:=by
 unfold Yt Ira
 cases s with
 | nil=>simp
 | cons a r=>simp
open Classical in
theorem name7_c (h:Ro)(s:List UInt8)(hs:s.length≤9223372036854775807):Val Tryz.prog 174 #[.string (str s)] h (.bool (decide (Yt s))):=by
 refine Az (args:=[_]) ts_ok Go.Proofs.Tryz.func174 rfl rfl fun w0 X0 => ?_
 have hz:=A9a s
 by_cases h0:s.length=0
 · repeat' (first|apply Ac|apply Aa|apply Ab|(apply Aw;exact J;exact J)|(apply Ad;(iterate 3 exact J))|(apply Aj;exact J;all_goals (intro hc;try simp only [hcS,reduceCtorEq] at hc;try (exfalso;omega)))|(apply Ba;exact J;exact J;all_goals (intro hc;try simp only [hcS,reduceCtorEq] at hc;try (exfalso;omega))))
   all_goals (try (exfalso;rw [hz] at *;omega))
   (first|(apply Bb;(iterate 3 exact J)))
   rw [decide_eq_false];rw [Mg];intro hh;omega
 by_cases h1:24<s.length
 · repeat' (first|apply Ac|apply Aa|apply Ab|(apply Aw;exact J;exact J)|(apply Ad;(iterate 3 exact J))|(apply Aj;exact J;all_goals (intro hc;try simp only [hcS,reduceCtorEq] at hc;try (exfalso;omega)))|(apply Ba;exact J;exact J;all_goals (intro hc;try simp only [hcS,reduceCtorEq] at hc;try (exfalso;omega))))
   all_goals (try (exfalso;rw [hz] at *;omega))
   (first|(apply Bb;(iterate 3 exact J)))
   rw [decide_eq_false];rw [Mg];intro hh;omega
 repeat' (first|apply Ac|apply Au|apply Aa|apply Ab|(apply Aw;exact J;exact J)|(apply Ad;(iterate 3 exact J))|(apply Bd;exact J;exact J;(first|(apply OV_strIdx (s:=s) (j:=0);(iterate 5 exact J);omega));exact QA)|(apply Aj;exact J;all_goals (intro hc;try simp only [hcS,reduceCtorEq] at hc;try (exfalso;omega)))|(apply Ba;exact J;exact J;all_goals (intro hc;try simp only [hcS,reduceCtorEq] at hc;try (exfalso;omega))))
 · (first|(apply Bb;(iterate 3 exact J)))
   rw [decide_eq_false];rw [Mg];intro hh;omega
 · (first|(apply Bb;(iterate 3 exact J)))
   rw [decide_eq_false];rw [Mg];intro hh;omega
 · have hw:=Mg s
   repeat' (first|apply Ak|apply Ab|(apply Ad;(iterate 3 exact J))|(apply Af;(iterate 3 exact J);(first|(apply Ija;(iterate 6 exact J);omega;intro A1 c1 h1 hle1 hs1;skip))))
   refine Bt (X:=Nat) (fun k=>k≤s.length∧∀ c∈s.take k,Ira c) (fun k=>s.length-k) (fun k=>[(26,.int .i64 k),(25,.int .i64 s.length),(24,.slice A1 s.length c1)]) (fun _=>[]) (fun _=>h1) 0 ⟨by omega,by simp⟩ QS QT rfl ?_
   rintro k ⟨hk,hI⟩ ih
   by_cases hkn:k<s.length
   · have a1:=hs1.addrD hkn
     have cc:=hs1.cellsD 0 hkn
     have ht:=Fq 0 rfl hkn
     have hm:=mem7 0 hkn
     generalize s.getD k 0=u at *
     have hno:¬ Ira u→¬ Yt s:=fun h3 h4=>h3 ((hw.1 h4).2.2.2 u hm)
     have hyes:Ira u→∀ c∈s.take (k+1),Ira c:=fun h3 c h4=>by
      rw [ht,List.mem_append,List.mem_singleton] at h4
      rcases h4 with h4|h4
      · exact hI c h4
      · rw [h4];exact h3
     unfold Ira at hno hyes
     repeat' (first|apply Ac|apply Au|apply Ap|apply Ak|apply Aa|apply Ab|(apply Aw;exact J;exact J)|(apply Bg;(iterate 3 exact J);omega;exact J;exact J)|(apply Ad;(iterate 3 exact J))|(apply Bd;exact J;exact J;(first|(apply Be (j:=k);(iterate 5 exact J);exact a1;(with_reducible exact J);omega)|(apply Ar;exact J;exact Bh rfl cc rfl));exact QA)|(apply Aj;exact J;all_goals (intro hc;try simp only [hcS,reduceCtorEq] at hc;try (exfalso;omega)))|(apply Ba;exact J;exact J;all_goals (intro hc;try simp only [hcS,reduceCtorEq] at hc;try (exfalso;omega))))
     all_goals first
      | ((first|(apply Bb;(iterate 3 exact J)));rw [decide_eq_false];apply hno;omega)
      | (have h3:=ih (k+1) ⟨by omega,hyes (by omega)⟩ (by omega)
         refine Bw QS QT (h3))
   · repeat' (first|apply Ac|apply Aa|apply Ab|(apply Bn;exact J)|(apply Ad;(iterate 3 exact J))|(apply Aj;exact J;all_goals (intro hc;try simp only [hcS,reduceCtorEq] at hc;try (exfalso;omega)))|(apply Bb;(iterate 3 exact J)))
     rw [List.take_of_length_le (by omega)] at hI
     rw [decide_eq_true];exact hw.2 ⟨by omega,by omega,⟨by omega,by omega⟩,hI⟩
open Classical in
theorem Jaa (h:Ro)(A:Option Addr)(n c:Nat)(xs:List Int)(hx:Cc Ex 1 h A n xs)(hn:n≤9223372036854775807) :
  Val Tryz.prog 175 #[.slice A n c] h (.bool (decide (Cqa xs))):=by
 refine Az (args:=[_]) ts_ok Go.Proofs.Tryz.func175 rfl rfl fun w0 X0 => ?_
 repeat' (first|apply Ac|apply Aa|apply Ab|(apply Aw;exact J;exact J)|(apply Ad;(iterate 3 exact J))|(apply Af;(iterate 3 exact J);(first|(apply Aq;exact J;exact has172;exact all7_c _ _ _ _ xs hx hn 0 40 135 (fun x=>decide (Bel x 8192)) has135 (fun h x=>Wy h x);skip)|(apply Aq;exact J;exact has173;exact incr7_c _ _ _ _ xs hx hn;skip)))|(apply Ba;exact J;exact J;all_goals (intro hc;try simp only [hcS,reduceCtorEq] at hc;try (exfalso;omega)))|(apply Bb;(iterate 3 exact J)))
 all_goals (refine Dg ?_;unfold Cqa;(try simp only [decide_eq_true_eq] at *);grind)
theorem sheet2_c (h:Ro)(b:Nat)(s:Fsh)(x:El)(hx:Cc Ex 1 h s.asn.A s.asn.n x.asn)(hn:s.asn.n≤9223372036854775807)(hc:At h ⟨b,0,none⟩ (Wo s x))(p:Int) :
  Val Tryz.prog 178 #[.int .i64 p,.pointer (some ⟨b,0,none⟩)] h (.bool (decide (p∈x.asn))):=by
 refine Az (args:=[_,_]) ts_ok Go.Proofs.Tryz.func178 rfl rfl fun w0 X0 => ?_
 repeat' (first|apply Ac|apply Aa|apply Ab|(apply Ad;(iterate 3 exact J))|(apply Bd;exact J;exact J;(first|(apply Ar;exact J;first|exact Bh rfl (by assumption) rfl|exact Dc rfl (by assumption) rfl|exact Db rfl (by assumption) rfl|exact Lv_roF3 rfl (by assumption) rfl));exact QA)|(apply Af;(iterate 3 exact J);(first|(apply Aq;exact J;exact has179;exact con7_c _ _ _ _ _ hx hn _;skip)))|(apply Bb;(iterate 3 exact J)))
 all_goals rfl
theorem Vl.small {h:Ro}{s:Fsh}{x:El}(a:Vl h s x)(b:Iea x):s.hs.n≤9223372036854775807∧s.asn.n≤9223372036854775807∧s.hc.n≤9223372036854775807∧s.ac.n≤9223372036854775807:=by
 have h1:=a.hs.len;have h2:=a.asn.len;have h3:=a.hc.len;have h4:=a.ac.len
 obtain ⟨b1,b2,b3,b4⟩:=b
 omega
theorem anyE {l r:List Int}:(!(l.any fun p=>decide (p∈r)))=true↔∀ p∈l,p ∉ r:=by
 simp
open Classical in
theorem sheet7_c (h:Ro)(s:Fsh)(x:El)(hx:Vl h s x)(hs:Iea x):Val Tryz.prog 127 #[Dma s x] h (.bool (decide (Gw x))):=by
 refine Az (args:=[_]) ts_ok Go.Proofs.Tryz.func127 rfl rfl fun w0 X0 => ?_
 obtain ⟨n1,n2,n3,n4⟩:=hx.small hs
 repeat' (first|apply Ac|apply Aa|apply Ab|(apply Aw;exact J;exact J)|(apply Ad;(iterate 3 exact J))|(apply Ai;exact J;exact Av rfl QM rfl;exact J;exact J)|(apply Af;(iterate 3 exact J);(first|(apply Ao;exact J;intro b;skip)|(apply Cd (f:=175) (fs:=[]) (cs:=[]);exact J;exact J;exact has175;first|exact Jaa _ _ _ _ x.hs (hx.hs.le QL) (by omega)|exact Jaa _ _ _ _ x.asn (hx.asn.le QL) (by omega);skip)|(apply Aq;exact J;exact has177;first|exact Kja _ _ _ _ x.hc (hx.hc.le QL) (by omega) _ _ _ x.hs (hx.hs.le QL) (by omega)|exact Kja _ _ _ _ x.ac (hx.ac.le QL) (by omega) _ _ _ x.asn (hx.asn.le QL) (by omega);skip)|(refine Cq QK ?_;intro h1 hle1 hc1;apply Aq;exact J;exact has78;exact Cca h1 _ _ _ x.hs (hx.hs.le hle1) (by omega) 178 [] [.pointer (some ⟨_,0,none⟩)] (fun p=>decide (p∈x.asn)) has178 (fun p _=>sheet2_c h1 _ s x (hx.asn.le hle1) (by omega) hc1 p);skip)|(apply Aq;exact J;exact Xo;exact Xr _ _;skip)|(apply Aq;exact J;exact Hba;exact Nd _ _ _;skip)|(apply Aq;exact J;exact has176;exact J1a _ _;skip)))|(apply Ba;exact J;exact J;all_goals (intro hc;try simp only [hcS,reduceCtorEq] at hc;try (exfalso;omega))))
 all_goals (first|(apply Bb;(iterate 3 exact J)))
 all_goals (clear hx hs n1 n2 n3 n4;refine Dg ?_;try rw [anyE])
 all_goals (unfold Gw;grind)
theorem all192 (xs:List Int)(lo hi:Int):(decide (lo≤(xs.length:Int)∧(xs.length:Int)≤hi∧∀ x∈xs,(fun x=>decide (Bel x 192)) x=true))=decide (lo≤(xs.length:Int)∧(xs.length:Int)≤hi∧∀ x∈xs,Bel x 192):=by
 rw [decide_eq_decide];simp
open Classical in
theorem Hpa (h:Ro)(s:Fsh)(x:Fct)(hx:Cc Ex 1 h s.cl.A s.cl.n x.eClubs)(hn:s.cl.n≤9223372036854775807)(hr:x.eRules.length≤9223372036854775807):Val Tryz.prog 122 #[entV7 s x] h (.bool (decide (EntOk x))):=by
 refine Az (args:=[_]) ts_ok Go.Proofs.Tryz.func122 rfl rfl fun w0 X0 => ?_
 have hlen:=hx.len
 repeat' (first|apply Ac|apply Aa|apply Ab|(apply Aw;exact J;exact J)|(apply Ad;(iterate 3 exact J))|(apply Ai;exact J;exact Av rfl QM rfl;exact J;exact J)|(apply Af;(iterate 3 exact J);(first|(apply Ao;exact J;intro b;skip)|(apply Aq;exact J;exact has172;exact all192 _ _ _ ▸ all7_c _ _ _ _ x.eClubs hx hn 2 24 52 (fun x=>decide (Bel x 192)) Hda (fun h x=>Qy h x);skip)|(apply Aq;exact J;exact has173;exact incr7_c _ _ _ _ x.eClubs hx hn;skip)|(apply Aq;exact J;exact has174;exact name7_c _ x.eRules hr;skip)|(apply Aq;exact J;exact has51;exact Pk _ _ _;skip)))|(apply Ba;exact J;exact J;all_goals (intro hc;try simp only [hcS,reduceCtorEq] at hc;try (exfalso;omega))))
 all_goals (first|(apply Bb;(iterate 3 exact J)))
 all_goals (clear hx hn hr;refine Dg ?_)
 all_goals (try rw [Io,show (⟨#[]⟩:ByteArray).toList=[] from Io [],beq_iff_eq])
 all_goals (unfold EntOk;grind)
theorem K7:Vn Tryz.prog 3 (fun i:Int=>.int .i64 i):=by
 obtain ⟨D,h1,h2⟩:=ts_ok.und (show Cu 3 _=some _ from rfl)
 exact Vn.int (by rw [h1,Ie h2])
def met (l:List Int):List (Int×Bool):=l.foldl (fun m x=>Jo x true m) []
theorem Jqa (l:List Int)(x:Int):met (l++[x])=Jo x true (met l):=by
 simp [met,List.foldl_append]
theorem Bva {x:Int}:∀ (m:List (Int×Bool)),(Jo x true m).length=if x∈m.map (·.1) then m.length else m.length+1
 | []=>by simp [Jo]
 | (y,b)::r=>by
   have ih:=Bva (x:=x) r
   by_cases h:y=x
   · subst h;simp [Jo]
   · simp only [Jo,if_neg h,List.length_cons,ih,List.map_cons,List.mem_cons,show ¬ x=y from fun e=>h e.symm,false_or]
     split <;> rfl
theorem Era {x:Int}:∀ (m:List (Int×Bool)) (z:Int),z∈(Jo x true m).map (·.1)↔z=x∨z∈m.map (·.1)
 | [],z=>by simp [Jo]
 | (y,b)::r,z=>by
   have ih:=Era (x:=x) r z
   by_cases h:y=x
   · subst h
     simp [Jo]
   · simp only [Jo,if_neg h,List.map_cons,List.mem_cons,ih]
     constructor
     · rintro (h1|h1|h1)
       · exact .inr (.inl h1)
       · exact .inl h1
       · exact .inr (.inr h1)
     · rintro (h1|h1|h1)
       · exact .inr (.inl h1)
       · exact .inl h1
       · exact .inr (.inr h1)
theorem met_spec (l:List Int):(∀ z,z∈(met l).map (·.1)↔z∈l)∧(met l).length≤l.length∧((met l).length=l.length↔l.Nodup):=by
 have key:∀ n,n≤l.length→(∀ z,z∈(met (l.take n)).map (·.1)↔z∈l.take n)∧(met (l.take n)).length≤n∧((met (l.take n)).length=n↔(l.take n).Nodup):=by
  intro n
  induction n with
  | zero=>intro _;simp [met]
  | succ n ih =>
    intro hn
    obtain ⟨h1,h2,h3⟩:=ih (by omega)
    have ht:=Fq 0 (xs:=l) rfl (show n<l.length by omega)
    have hl:(l.take n).length=n:=by rw [List.length_take];omega
    rw [ht,Jqa]
    generalize l.getD n 0=x at *
    refine ⟨fun z => ?_,?_,?_⟩
    · rw [Era,h1,List.mem_append,List.mem_singleton];exact Or.comm
    · rw [Bva];split <;> omega
    · rw [Bva,List.nodup_append]
      simp only [h1]
      split
      · rename_i hx
        constructor
        · intro h;omega
        · rintro ⟨_,_,h⟩;exact absurd rfl (h x hx x (by simp))
      · rename_i hx
        rw [show (met (l.take n)).length+1=n+1↔(met (l.take n)).length=n from by omega,h3]
        constructor
        · intro h
          refine ⟨h,by simp,fun a ha b hb => ?_⟩
          rw [List.mem_singleton] at hb;subst hb;intro e;subst e;exact hx ha
        · exact fun h=>h.1
 have:=key l.length (Nat.le_refl _)
 rwa [List.take_length] at this
open Classical in
theorem lot7_c (h:Ro)(s:Fsh)(x:Fct)(hx:Cc Ex 1 h s.lo.A s.lo.n x.lO)(hn:s.lo.n≤9223372036854775807):Val Tryz.prog 138 #[lotV s x] h (.bool (decide (LotOk x))):=by
 refine Az (args:=[_]) ts_ok Go.Proofs.Tryz.func138 rfl rfl fun w0 X0 => ?_
 have hlen:=hx.len
 repeat' (first|apply Ac|apply Ak|apply Aa|apply Ab|(apply Ad;(iterate 3 exact J))|(apply Ai;exact J;exact Av rfl QM rfl;exact J;exact J)|(apply Af;(iterate 3 exact J);(first|(apply Ao;exact J;intro b;skip)|(apply Et (fun i:Int=>.int .i64 i) Value.bool;intro bm;skip))))
 generalize b=b0
 refine Bt (X:=Nat) (fun k=>k≤s.lo.n) (fun k=>s.lo.n-k) (fun k=>[(10,.int .i64 k),(9,.int .i64 s.lo.n),(8,.slice s.lo.A s.lo.n s.lo.c),(3,.map (some bm)),(1,.pointer (some ⟨b0,0,none⟩))])
  (fun k=>[Dk (fun i:Int=>.int .i64 i) Value.bool bm (met (x.lO.take k)),Blk b0 53 (Cn (lotV s x))]) (fun _=>h) 0 (by omega) QS QT rfl ?_
 rintro k hk ih
 by_cases hkn:k<s.lo.n
 · have a1:=hx.addrD hkn
   have c1:=hx.cellsD 0 hkn
   have ht:met (x.lO.take (k+1))=Jo (x.lO.getD k 0) true (met (x.lO.take k)):=by rw [Fq 0 hlen hkn,Jqa]
   generalize x.lO.getD k 0=u at *
   repeat' (first|apply Ac|apply Au|apply Ap|apply Ak|apply Aa|apply Ab|(apply Bg;(iterate 3 exact J);omega;exact J;exact J)|(apply Ad;(iterate 3 exact J))|(apply Bd;exact J;exact J;(first|(apply Be (j:=k);(iterate 5 exact J);exact a1;(with_reducible exact J);omega)|(apply Ar;exact J;exact Bh rfl c1 rfl));exact QA)|(apply Af;(iterate 3 exact J);(first|(apply Cy (ek:=fun i:Int=>.int .i64 i) (ev:=Value.bool) (b:=bm) (m:=met (x.lO.take k)) (key:=u) (u:=true) K7;(iterate 6 exact J);rw [← ht];exact QR;skip)))|(apply Aj;exact J;all_goals (intro hc;try simp only [hcS,reduceCtorEq] at hc;try (exfalso;omega))))
   have h3:=ih (k+1) (by omega) (by omega)
   refine Bw QS QT (h3)
 · rw [List.take_of_length_le (by omega)]
   clear ih
   have hm:=met_spec x.lO
   generalize met x.lO=mt at *
   repeat' (first|apply Ac|apply Aa|apply Ab|(apply Bn;exact J)|(apply Aw;exact J;exact J)|(apply Ad;(iterate 3 exact J))|(apply Ai;exact J;exact Av rfl QM rfl;exact J;exact J)|(apply Bd;exact J;exact J;(first|(apply OV_lenMap (ek:=fun i:Int=>.int .i64 i) (ev:=Value.bool) (b:=bm) (m:=mt);(iterate 3 exact J)));exact QA)|(apply Af;(iterate 3 exact J);(first|(apply Aq;exact J;exact has172;exact all192 _ _ _ ▸ all7_c _ _ _ _ x.lO hx hn 2 24 52 (fun x=>decide (Bel x 192)) Hda (fun h x=>Qy h x);skip)|(apply Aq;exact J;exact has51;exact Pk _ _ _;skip)))|(apply Aj;exact J;all_goals (intro hc;try simp only [hcS,reduceCtorEq] at hc;try (exfalso;omega)))|(apply Ba;exact J;exact J;all_goals (intro hc;try simp only [hcS,reduceCtorEq] at hc;try (exfalso;omega))))
   all_goals (first|(apply Bb;(iterate 3 exact J)))
   all_goals (refine Dg ?_;unfold LotOk;try rw [Kt])
   all_goals (clear hx;grind)
end Go.Hw
namespace Go.Hw
open Go
attribute [local irreducible] GO GOl GDp Val Fn Res At Fx Blk By Dk Cl Has
open Go.Proofs (Tryz.prog)
def fixC (g:Bl) (v:Int):List Value:=[.int .i64 g.s,.int .i64 g.c,.int .i64 g.h,.int .i64 g.a,.int .i64 v]
def appC (x:Fct):List Value:=[.int .i64 x.aCase,.int .i64 x.aInst,.bool x.aSusp]
def movC (x:Fct):List Value:=[.int .i64 x.mP,.int .i64 x.mTo]
theorem B1a {a b:Bl}:a=b↔a.s=b.s∧a.c=b.c∧a.h=b.h∧a.a=b.a:=by
 cases a;cases b;simp
theorem rul_ext {a b:Iz}:a=b↔a.case=b.case∧a.inst=b.inst∧a.kind=b.kind∧a.g=b.g∧a.club=b.club∧a.player=b.player∧a.season=b.season∧a.comp=b.comp∧a.points=b.points∧a.amount=b.amount∧a.hg=b.hg∧a.ag=b.ag∧a.lo=b.lo∧a.hi=b.hi:=by
 cases a;cases b;simp
theorem sheet_ext {a b:El}:a=b↔a.g=b.g∧a.ref=b.ref∧a.hg=b.hg∧a.ag=b.ag∧a.hp=b.hp∧a.ap=b.ap∧a.hs=b.hs∧a.asn=b.asn∧a.hc=b.hc∧a.ac=b.ac:=by
 cases a;cases b;simp
theorem fct_ext {a b:Fct}:a=b↔a.kind=b.kind∧a.day=b.day∧a.known=b.known∧(a.fg=b.fg∧a.venue=b.venue)∧a.ru=b.ru∧(a.aCase=b.aCase∧a.aInst=b.aInst∧a.aSusp=b.aSusp)∧(a.mP=b.mP∧a.mTo=b.mTo)∧a.void=b.void ∧
  a.eS=b.eS∧a.eC=b.eC∧a.eRules=b.eRules∧a.eClubs=b.eClubs∧a.lS=b.lS∧a.lC=b.lC∧a.lO=b.lO∧a.sh=b.sh:=by
 cases a;cases b;simp;grind
theorem Tp (a b:Bl):eqD ts 10 38 (.agg (Km a).toArray) (.agg (Km b).toArray)=some (decide (a=b)):=by
 have e:eqD ts 10 38 (.agg (Km a).toArray) (.agg (Km b).toArray)=some (eqI a.s b.s && (eqI a.c b.c && (eqI a.h b.h && (eqI a.a b.a && true)))):=rfl
 rw [e];congr 1;refine Si ?_;rw [B1a];simp only [Bool.and_eq_true,Kt,and_true]
theorem fix_eq (a b:Bl)(u v:Int):eqD ts 10 40 (.agg (fixC a u).toArray) (.agg (fixC b v).toArray)=some (decide (a=b∧u=v)):=by
 have e:eqD ts 10 40 (.agg (fixC a u).toArray) (.agg (fixC b v).toArray)=some ((eqI a.s b.s && (eqI a.c b.c && (eqI a.h b.h && (eqI a.a b.a && true)))) && (eqI u v && true)):=rfl
 rw [e];congr 1;refine Si ?_;rw [B1a];simp only [Bool.and_eq_true,Kt,and_true]
theorem rul_eq (a b:Iz):eqD ts 10 47 (.agg (Lw a).toArray) (.agg (Lw b).toArray)=some (decide (a=b)):=by
 have e:eqD ts 10 47 (.agg (Lw a).toArray) (.agg (Lw b).toArray)=some (eqI a.case b.case && (eqI a.inst b.inst && (eqI a.kind b.kind && ((eqI a.g.s b.g.s && (eqI a.g.c b.g.c && (eqI a.g.h b.g.h && (eqI a.g.a b.g.a && true)))) && (eqI a.club b.club && (eqI a.player b.player &&
  (eqI a.season b.season && (eqI a.comp b.comp && (eqI a.points b.points && (eqI a.amount b.amount && (eqI a.hg b.hg && (eqI a.ag b.ag && ((eqI a.lo b.lo && (eqI a.hi b.hi && true)) && true))))))))))))):=rfl
 rw [e];congr 1;refine Si ?_;rw [rul_ext,B1a];simp only [Bool.and_eq_true,Kt,and_true]
theorem app_eq (a b:Fct):eqD ts 10 49 (.agg (appC a).toArray) (.agg (appC b).toArray)=some (decide (a.aCase=b.aCase∧a.aInst=b.aInst∧a.aSusp=b.aSusp)):=by
 have e:eqD ts 10 49 (.agg (appC a).toArray) (.agg (appC b).toArray)=some (eqI a.aCase b.aCase && (eqI a.aInst b.aInst && ((a.aSusp == b.aSusp) && true))):=rfl
 rw [e];congr 1;refine Si ?_;simp only [Bool.and_eq_true,Kt,and_true,beq_iff_eq]
theorem mov_eq (a b:Fct):eqD ts 10 51 (.agg (movC a).toArray) (.agg (movC b).toArray)=some (decide (a.mP=b.mP∧a.mTo=b.mTo)):=by
 have e:eqD ts 10 51 (.agg (movC a).toArray) (.agg (movC b).toArray)=some (eqI a.mP b.mP && (eqI a.mTo b.mTo && true)):=rfl
 rw [e];congr 1;refine Si ?_;simp only [Bool.and_eq_true,Kt,and_true]
def eqBy (a b:List UInt8):List Nat→Bool
 | []=>true
 | i::r=>eqI ((a.getD i 0).toNat:Int) ((b.getD i 0).toNat:Int) && eqBy a b r
theorem J5a (a b:List UInt8):∀ l,eqBy a b l=true↔∀ i∈l,a.getD i 0=b.getD i 0
 | []=>by simp [eqBy]
 | i::r=>by
   rw [eqBy,Bool.and_eq_true,Kt,J5a a b r,List.forall_mem_cons]
   refine and_congr ⟨fun h => ?_,fun h=>by rw [h]⟩ Iff.rfl
   exact UInt8.toNat_inj.1 (by omega)
theorem void_eq (a b:List UInt8)(ha:a.length=32)(hb:b.length=32):eqV ts 10 55 (.agg (C7a a).toArray) (.agg (C7a b).toArray)=some (decide (a=b)):=by
 have e:eqV ts 10 55 (.agg (C7a a).toArray) (.agg (C7a b).toArray)=some (eqBy a b (List.range 32)):=rfl
 rw [e];congr 1;refine Si ?_
 rw [J5a]
 constructor
 · intro h
   refine List.ext_getElem (by omega) fun i h1 h2 => ?_
   have:=h i (by rw [List.mem_range];omega)
   simpa [List.getD,List.getElem?_eq_getElem h1,List.getElem?_eq_getElem h2] using this
 · rintro rfl i _;rfl
theorem FAt.small {h:Ro}{s:Fsh}{x:Fct}(a:FAt h s x)(b:FSm x):s.hs.n≤9223372036854775807∧s.asn.n≤9223372036854775807∧s.hc.n≤9223372036854775807∧s.ac.n≤9223372036854775807∧s.cl.n≤9223372036854775807∧s.lo.n≤9223372036854775807:=by
 have h1:=a.sh.hs.len;have h2:=a.sh.asn.len;have h3:=a.sh.hc.len;have h4:=a.sh.ac.len;have h5:=a.cl.len;have h6:=a.lo.len
 obtain ⟨⟨b1,b2,b3,b4⟩,b5,b6,b7⟩:=b
 omega
theorem same7_c (h:Ro)(s:Fsh)(x:Fct)(hx:FAt h s x)(hxs:FSm x)(t:Fsh)(y:Fct)(hy:FAt h t y)(hys:FSm y):Val Tryz.prog 84 #[Fc s x,Fc t y] h (.bool (decide (x=y))):=by
 refine Az (args:=[_,_]) ts_ok Go.Proofs.Tryz.func84 rfl rfl fun w0 X0 => ?_
 obtain ⟨n1,n2,n3,n4,n5,n6⟩:=hx.small hxs
 obtain ⟨m1,m2,m3,m4,m5,m6⟩:=hy.small hys
 repeat' (first|apply Ac|apply Aa|apply Ab|(apply Aw;exact J;exact J)|(apply Ad;(iterate 3 exact J))|(apply Ai;exact J;exact Av rfl QM rfl;exact J;exact J)|(apply Bd;exact J;exact J;(first|(apply Ys;exact J;exact J;(first|exact Tp _ _|exact fix_eq _ _ _ _|exact rul_eq _ _|exact app_eq x y|exact mov_eq x y);kernel_rfl;kernel_rfl)|(apply OV_eqlV;exact J;exact J;exact void_eq x.void y.void hx.void hy.void;kernel_rfl;kernel_rfl));exact QA)|(apply Af;(iterate 3 exact J);(first|(apply Ao;exact J;intro b;skip)|(apply Aq;exact J;exact has48;first|exact Mz _ _ _ _ x.eClubs (hx.cl.le QL) (by omega) _ _ _ y.eClubs (hy.cl.le QL) (by omega)|exact Mz _ _ _ _ x.lO (hx.lo.le QL) (by omega) _ _ _ y.lO (hy.lo.le QL) (by omega)|exact Mz _ _ _ _ x.sh.hs (hx.sh.hs.le QL) (by omega) _ _ _ y.sh.hs (hy.sh.hs.le QL) (by omega)|exact Mz _ _ _ _ x.sh.asn (hx.sh.asn.le QL) (by omega) _ _ _ y.sh.asn (hy.sh.asn.le QL) (by omega);skip)|(apply Aq;exact J;exact has142;first|exact Vx _ _ _ _ x.sh.hc (hx.sh.hc.le QL) (by omega) _ _ _ y.sh.hc (hy.sh.hc.le QL) (by omega)|exact Vx _ _ _ _ x.sh.ac (hx.sh.ac.le QL) (by omega) _ _ _ y.sh.ac (hy.sh.ac.le QL) (by omega);skip)))|(apply Bf (n:=1) [0,1,4,5,6,2,3,7] [(0,0),(1,0),(2,0),(3,0),(4,2),(3,5),(5,1),(6,1),(7,1),(4,1),(6,1),(7,1)];kernel_rfl)|(apply Ce;exact J;kernel_rfl;(iterate 3 exact J))|(apply Bj;exact J;kernel_rfl;(iterate 3 exact J);exact QM;exact J;exact J)|(apply Br;exact J;kernel_rfl;(iterate 3 exact J);(first|(apply Ah;(iterate 3 exact J);exact QR;(iterate 3 exact J);refine ⟨Le.refl _,QN,?_⟩)|(apply Ag;exact J;intro b;refine ⟨Le.refl _,QN,?_⟩)))|(apply Ia;kernel_rfl;exact J;exact J)|(apply Cj;(iterate 4 exact J);(first|(apply Ag;exact J;intro b;refine ⟨Le.refl _,QN,?_⟩)))|(apply Bm;kernel_rfl;exact J)|(apply Ba;exact J;exact J;all_goals (intro hc;try simp only [hcS,reduceCtorEq] at hc;try (exfalso;omega))))
 all_goals (first|(apply Bb;(iterate 3 exact J)))
 all_goals (clear hx hxs hy hys;refine Dg ?_;(try simp only [Io,beq_iff_eq] at *))
 all_goals (rw [fct_ext,sheet_ext];grind)
end Go.Hw
namespace Go.Hw
open Go
attribute [local irreducible] GO GOl GDp Val Fn Res At Fx Blk By Dk Cl Has
open Go.Proofs (Tryz.prog)
instance (a b:Int):Decidable (Li a b):=by unfold Li;infer_instance
theorem okI {p:Prop}[Decidable p]{e:Int}(he:e≠0):eqI (if p then 0 else e) 0=decide p:=by
 rw [Hm,decide_eq_decide];split <;> simp_all
def ivlC (a b:Int):List Value:=[.int .i64 a,.int .i64 b]
theorem valid7_c (h:Ro)(n:Int):Val Tryz.prog 257 #[.int .i64 n] h (.bool (decide (0≤n∧n≤1048576))):=by
 refine Az (args:=[_]) ts_ok Go.Proofs.Tryz.func257 rfl rfl fun w0 X0 => ?_
 repeat' (first|apply Ac|apply Aa|apply Ab|(apply Aw;exact J;exact J)|(apply Ad;(iterate 3 exact J))|(apply Ba;exact J;exact J;all_goals (intro hc;try simp only [hcS,reduceCtorEq] at hc;try (exfalso;omega)))|(apply Bb;(iterate 3 exact J)))
 all_goals (refine Dg ?_;(try rw [Bra]);grind)
theorem cal7_c (h:Ro)(a b:Int):Val Tryz.prog 222 #[.agg (ivlC a b).toArray] h (.int .i64 (if Li a b then 0 else 10)):=by
 refine Az (args:=[_]) ts_ok Go.Proofs.Tryz.func222 rfl rfl fun w0 X0 => ?_
 repeat' (first|apply Ac|apply Au|apply Aa|apply Ab|(apply Aw;exact J;exact J)|(apply Ad;(iterate 3 exact J))|(apply Ai;exact J;exact Av rfl QM rfl;exact J;exact J)|(apply Af;(iterate 3 exact J);(first|(apply Ao;exact J;intro b;skip)|(apply Aq;exact J;exact has257;exact valid7_c _ _;skip)))|(apply Aj;exact J;all_goals (intro hc;try simp only [hcS,reduceCtorEq] at hc;try (exfalso;omega)))|(apply Ba;exact J;exact J;all_goals (intro hc;try simp only [hcS,reduceCtorEq] at hc;try (exfalso;omega)))|(apply Bb;(iterate 3 exact J)))
 all_goals (first|(rw [if_pos (show Li _ _ from by unfold Li;omega)];done)|(rw [if_neg (show ¬ Li _ _ from by unfold Li;omega)];done))
theorem rk1_c (h:Ro)(r:Iz):Val Tryz.prog 220 #[Ta r] h (.bool (decide (Fd r.g))):=by
 refine Az (args:=[_]) ts_ok Go.Proofs.Tryz.func220 rfl rfl fun w0 X0 => ?_
 repeat' (first|apply Ac|apply Aa|apply Ab|(apply Ad;(iterate 3 exact J))|(apply Ai;exact J;exact Av rfl QM rfl;exact J;exact J)|(apply Af;(iterate 3 exact J);(first|(apply Ao;exact J;intro b;skip)|(apply Aq;exact J;exact Xo;exact Xr _ r.g;skip)))|(apply Bb;(iterate 3 exact J)))
 all_goals (rw [okI (by decide)])
theorem rk2_c (h:Ro)(r:Iz):Val Tryz.prog 221 #[Ta r] h (.bool (decide (Li r.lo r.hi))):=by
 refine Az (args:=[_]) ts_ok Go.Proofs.Tryz.func221 rfl rfl fun w0 X0 => ?_
 repeat' (first|apply Ac|apply Aa|apply Ab|(apply Ad;(iterate 3 exact J))|(apply Ai;exact J;exact Av rfl QM rfl;exact J;exact J)|(apply Af;(iterate 3 exact J);(first|(apply Ao;exact J;intro b;skip)|(apply Aq;exact J;exact has222;exact cal7_c _ r.lo r.hi;skip)))|(apply Bb;(iterate 3 exact J)))
 all_goals (rw [okI (by decide)])
def Ita (h:Ro) (b:Nat):Prop:=At h ⟨b,0,none⟩ [.func (.func 220) #[] #[]]
def Iya (h:Ro) (b:Nat):Prop:=At h ⟨b,0,none⟩ [.func (.func 221) #[] #[]]
theorem rk3_c (h:Ro)(b:Nat)(hb:Ita h b)(r:Iz):Val Tryz.prog 223 #[Ta r,.pointer (some ⟨b,0,none⟩)] h (.bool (decide (Fd r.g∧(r.club=r.g.h∨r.club=r.g.a)))):=by
 refine Az (args:=[_,_]) ts_ok Go.Proofs.Tryz.func223 rfl rfl fun w0 X0 => ?_
 unfold Ita at hb
 repeat' (first|apply Ac|apply Aa|apply Ab|(apply Aw;exact J;exact J)|(apply Ad;(iterate 3 exact J))|(apply Ai;exact J;exact Av rfl QM rfl;exact J;exact J)|(apply Bd;exact J;exact J;(first|(apply Ar;exact J;first|exact Bh rfl (by assumption) rfl|exact Dc rfl (by assumption) rfl|exact Db rfl (by assumption) rfl|exact Lv_roF3 rfl (by assumption) rfl));exact QA)|(apply Af;(iterate 3 exact J);(first|(apply Ao;exact J;intro b;skip)|(apply Cd (f:=220) (fs:=[]) (cs:=[]);exact J;exact J;exact has220;exact rk1_c _ r;skip)))|(apply Ba;exact J;exact J;all_goals (intro hc;try simp only [hcS,reduceCtorEq] at hc;try (exfalso;omega)))|(apply Bb;(iterate 3 exact J)))
 all_goals (refine Dg ?_;(try rw [Kt]);grind)
theorem rk6_c (h:Ro)(b:Nat)(hb:Ita h b)(r:Iz):Val Tryz.prog 226 #[Ta r,.pointer (some ⟨b,0,none⟩)] h (.bool (decide (Fd r.g∧Bel r.hg 100∧Bel r.ag 100))):=by
 refine Az (args:=[_,_]) ts_ok Go.Proofs.Tryz.func226 rfl rfl fun w0 X0 => ?_
 unfold Ita at hb
 repeat' (first|apply Ac|apply Aa|apply Ab|(apply Aw;exact J;exact J)|(apply Ad;(iterate 3 exact J))|(apply Ai;exact J;exact Av rfl QM rfl;exact J;exact J)|(apply Bd;exact J;exact J;(first|(apply Ar;exact J;first|exact Bh rfl (by assumption) rfl|exact Dc rfl (by assumption) rfl|exact Db rfl (by assumption) rfl|exact Lv_roF3 rfl (by assumption) rfl));exact QA)|(apply Af;(iterate 3 exact J);(first|(apply Ao;exact J;intro b;skip)|(apply Cd (f:=220) (fs:=[]) (cs:=[]);exact J;exact J;exact has220;exact rk1_c _ r;skip)|(apply Aq;exact J;exact has176;exact J1a _ _;skip)))|(apply Ba;exact J;exact J;all_goals (intro hc;try simp only [hcS,reduceCtorEq] at hc;try (exfalso;omega)))|(apply Bb;(iterate 3 exact J)))
 all_goals (refine Dg ?_;grind)
theorem rk8_c (h:Ro)(r:Iz):Val Tryz.prog 228 #[Ta r] h (.bool (decide (Bel r.club 192∧Bel r.season 64∧Bel r.comp 16∧1≤r.points∧r.points≤99))):=by
 refine Az (args:=[_]) ts_ok Go.Proofs.Tryz.func228 rfl rfl fun w0 X0 => ?_
 repeat' (first|apply Ac|apply Aa|apply Ab|(apply Aw;exact J;exact J)|(apply Ad;(iterate 3 exact J))|(apply Ai;exact J;exact Av rfl QM rfl;exact J;exact J)|(apply Af;(iterate 3 exact J);(first|(apply Ao;exact J;intro b;skip)|(apply Aq;exact J;exact Hda;exact Qy _ _;skip)|(apply Aq;exact J;exact has51;exact Pk _ _ _;skip)))|(apply Ba;exact J;exact J;all_goals (intro hc;try simp only [hcS,reduceCtorEq] at hc;try (exfalso;omega)))|(apply Bb;(iterate 3 exact J)))
 all_goals (refine Dg ?_;(try rw [Bra]);grind)
theorem rk10_c (h:Ro)(b:Nat)(hb:Iya h b)(r:Iz):Val Tryz.prog 230 #[Ta r,.pointer (some ⟨b,0,none⟩)] h (.bool (decide (Bel r.club 192∧Li r.lo r.hi))):=by
 refine Az (args:=[_,_]) ts_ok Go.Proofs.Tryz.func230 rfl rfl fun w0 X0 => ?_
 unfold Iya at hb
 repeat' (first|apply Ac|apply Aa|apply Ab|(apply Aw;exact J;exact J)|(apply Ad;(iterate 3 exact J))|(apply Ai;exact J;exact Av rfl QM rfl;exact J;exact J)|(apply Bd;exact J;exact J;(first|(apply Ar;exact J;first|exact Bh rfl (by assumption) rfl|exact Dc rfl (by assumption) rfl|exact Db rfl (by assumption) rfl|exact Lv_roF3 rfl (by assumption) rfl));exact QA)|(apply Af;(iterate 3 exact J);(first|(apply Ao;exact J;intro b;skip)|(apply Cd (f:=221) (fs:=[]) (cs:=[]);exact J;exact J;exact has221;exact rk2_c _ r;skip)|(apply Aq;exact J;exact Hda;exact Qy _ _;skip)))|(apply Ba;exact J;exact J;all_goals (intro hc;try simp only [hcS,reduceCtorEq] at hc;try (exfalso;omega)))|(apply Bb;(iterate 3 exact J)))
 all_goals (refine Dg ?_;grind)
theorem rk12_c (h:Ro)(b:Nat)(hb:Iya h b)(r:Iz):Val Tryz.prog 232 #[Ta r,.pointer (some ⟨b,0,none⟩)] h (.bool (decide (Bel r.player 8192∧Li r.lo r.hi))):=by
 refine Az (args:=[_,_]) ts_ok Go.Proofs.Tryz.func232 rfl rfl fun w0 X0 => ?_
 unfold Iya at hb
 repeat' (first|apply Ac|apply Aa|apply Ab|(apply Aw;exact J;exact J)|(apply Ad;(iterate 3 exact J))|(apply Ai;exact J;exact Av rfl QM rfl;exact J;exact J)|(apply Bd;exact J;exact J;(first|(apply Ar;exact J;first|exact Bh rfl (by assumption) rfl|exact Dc rfl (by assumption) rfl|exact Db rfl (by assumption) rfl|exact Lv_roF3 rfl (by assumption) rfl));exact QA)|(apply Af;(iterate 3 exact J);(first|(apply Ao;exact J;intro b;skip)|(apply Cd (f:=221) (fs:=[]) (cs:=[]);exact J;exact J;exact has221;exact rk2_c _ r;skip)|(apply Aq;exact J;exact has135;exact Wy _ _;skip)))|(apply Ba;exact J;exact J;all_goals (intro hc;try simp only [hcS,reduceCtorEq] at hc;try (exfalso;omega)))|(apply Bb;(iterate 3 exact J)))
 all_goals (refine Dg ?_;grind)
theorem rk14_c (h:Ro)(r:Iz):Val Tryz.prog 234 #[Ta r] h (.bool (decide (Bel r.club 192∧1≤r.amount∧r.amount≤1125899906842624))):=by
 refine Az (args:=[_]) ts_ok Go.Proofs.Tryz.func234 rfl rfl fun w0 X0 => ?_
 repeat' (first|apply Ac|apply Aa|apply Ab|(apply Aw;exact J;exact J)|(apply Ad;(iterate 3 exact J))|(apply Ai;exact J;exact Av rfl QM rfl;exact J;exact J)|(apply Af;(iterate 3 exact J);(first|(apply Ao;exact J;intro b;skip)|(apply Aq;exact J;exact Hda;exact Qy _ _;skip)))|(apply Ba;exact J;exact J;all_goals (intro hc;try simp only [hcS,reduceCtorEq] at hc;try (exfalso;omega)))|(apply Bb;(iterate 3 exact J)))
 all_goals (refine Dg ?_;(try rw [Bra]);grind)
theorem rk16_c (h:Ro)(r:Iz):Val Tryz.prog 236 #[Ta r] h (.bool true):=by
 refine Az (args:=[_]) ts_ok Go.Proofs.Tryz.func236 rfl rfl fun w0 X0 => ?_
 repeat' (first|apply Ac|apply Aa|apply Ab|(apply Ad;(iterate 3 exact J))|(apply Af;(iterate 3 exact J);(first|(apply Ao;exact J;intro b;skip)))|(apply Bb;(iterate 3 exact J)))
 all_goals rfl
def Hu (b T:Nat) (cs:List Value):Value→List Asn→Ro→Prop:=fun v Es _=>v=.tuple #[]∧Es=[Blk b T cs]
theorem rk4_c (h:Ro)(bq:Nat)(r x:Iz):Fn Tryz.prog 224 #[Ta r,.pointer (some ⟨bq,0,none⟩)] [Blk bq 47 (Lw x)] h (Hu bq 47 (Lw { x with g:=r.g,club:=r.club })):=by
 refine Bo (args:=[_,_]) ts_ok Go.Proofs.Tryz.func224 rfl rfl fun w0 X0 => ?_
 repeat' (first|apply Ac|apply Aa|apply Ab|(apply Af;(iterate 3 exact J);(first|(apply Ao;exact J;intro b;skip)))|(apply Bf (n:=1) [0,2,3,6,7,8,1,4,5,9,10,11] [(0,0),(1,0),(2,0),(3,0),(4,0),(5,0),(6,0),(7,0),(8,1),(9,0),(10,0),(11,1)];kernel_rfl)|(apply Ce;exact J;kernel_rfl;(iterate 3 exact J))|(apply Bj;exact J;kernel_rfl;(iterate 3 exact J);exact QM;exact J;exact J)|(apply Br;exact J;kernel_rfl;(iterate 3 exact J);(first|(apply Ah;(iterate 3 exact J);exact QR;(iterate 3 exact J);refine ⟨Le.refl _,QN,?_⟩)))|(apply Bm;kernel_rfl;exact J))
 exact Cs (Es':=[Blk bq 47 (Lw { x with g:=r.g,club:=r.club })]) QT (Fe (rs:=[]) (vs:=[]) rfl rfl trivial ⟨rfl,rfl⟩)
theorem rk5_c (h:Ro)(bq:Nat)(r x:Iz):Fn Tryz.prog 225 #[Ta r,.pointer (some ⟨bq,0,none⟩)] [Blk bq 47 (Lw x)] h (Hu bq 47 (Lw { x with g:=r.g })):=by
 refine Bo (args:=[_,_]) ts_ok Go.Proofs.Tryz.func225 rfl rfl fun w0 X0 => ?_
 repeat' (first|apply Ac|apply Aa|apply Ab|(apply Ad;(iterate 3 exact J))|(apply Ai;exact J;exact Av rfl QM rfl;exact J;exact J)|(apply Af;(iterate 3 exact J);(first|(apply Ah;(iterate 3 exact J);exact QR;(iterate 3 exact J);skip)|(apply Ao;exact J;intro b;skip))))
 exact Cs (Es':=[Blk bq 47 (Lw { x with g:=r.g })]) QT (Fe (rs:=[]) (vs:=[]) rfl rfl trivial ⟨rfl,rfl⟩)
theorem rk7_c (h:Ro)(bq:Nat)(r x:Iz):Fn Tryz.prog 227 #[Ta r,.pointer (some ⟨bq,0,none⟩)] [Blk bq 47 (Lw x)] h (Hu bq 47 (Lw { x with g:=r.g,hg:=r.hg,ag:=r.ag })):=by
 refine Bo (args:=[_,_]) ts_ok Go.Proofs.Tryz.func227 rfl rfl fun w0 X0 => ?_
 repeat' (first|apply Ac|apply Aa|apply Ab|(apply Af;(iterate 3 exact J);(first|(apply Ao;exact J;intro b;skip)))|(apply Bf (n:=1) [0,3,4,9,10,11,1,5,6,12,13,14,2,7,8,15,16,17] [(0,0),(1,0),(2,0),(3,0),(4,0),(5,0),(6,0),(7,0),(8,0),(9,0),(10,0),(11,1),(12,0),(13,0),(14,1),(15,0),(16,0),(17,1)];kernel_rfl)|(apply Ce;exact J;kernel_rfl;(iterate 3 exact J))|(apply Bj;exact J;kernel_rfl;(iterate 3 exact J);exact QM;exact J;exact J)|(apply Br;exact J;kernel_rfl;(iterate 3 exact J);(first|(apply Ah;(iterate 3 exact J);exact QR;(iterate 3 exact J);refine ⟨Le.refl _,QN,?_⟩)))|(apply Bm;kernel_rfl;exact J))
 exact Cs (Es':=[Blk bq 47 (Lw { x with g:=r.g,hg:=r.hg,ag:=r.ag })]) QT (Fe (rs:=[]) (vs:=[]) rfl rfl trivial ⟨rfl,rfl⟩)
theorem rk9_c (h:Ro)(bq:Nat)(r x:Iz):Fn Tryz.prog 229 #[Ta r,.pointer (some ⟨bq,0,none⟩)] [Blk bq 47 (Lw x)] h (Hu bq 47 (Lw { x with club:=r.club,season:=r.season,comp:=r.comp,points:=r.points })):=by
 refine Bo (args:=[_,_]) ts_ok Go.Proofs.Tryz.func229 rfl rfl fun w0 X0 => ?_
 repeat' (first|apply Ac|apply Aa|apply Ab|(apply Af;(iterate 3 exact J);(first|(apply Ao;exact J;intro b;skip)))|(apply Bf (n:=1) [0,4,5,12,13,14,1,6,7,15,16,17,2,8,9,18,19,20,3,10,11,21,22,23] [(0,0),(1,0),(2,0),(3,0),(4,0),(5,0),(6,0),(7,0),(8,0),(9,0),(10,0),(11,0),(12,0),(13,0),(14,1),(15,0),(16,0),(17,1),(18,0),(19,0),(20,1),(21,0),(22,0),(23,1)];kernel_rfl)|(apply Ce;exact J;kernel_rfl;(iterate 3 exact J))|(apply Bj;exact J;kernel_rfl;(iterate 3 exact J);exact QM;exact J;exact J)|(apply Br;exact J;kernel_rfl;(iterate 3 exact J);(first|(apply Ah;(iterate 3 exact J);exact QR;(iterate 3 exact J);refine ⟨Le.refl _,QN,?_⟩)))|(apply Bm;kernel_rfl;exact J))
 exact Cs (Es':=[Blk bq 47 (Lw { x with club:=r.club,season:=r.season,comp:=r.comp,points:=r.points })]) QT (Fe (rs:=[]) (vs:=[]) rfl rfl trivial ⟨rfl,rfl⟩)
theorem rk11_c (h:Ro)(bq:Nat)(r x:Iz):Fn Tryz.prog 231 #[Ta r,.pointer (some ⟨bq,0,none⟩)] [Blk bq 47 (Lw x)] h (Hu bq 47 (Lw { x with club:=r.club,lo:=r.lo,hi:=r.hi })):=by
 refine Bo (args:=[_,_]) ts_ok Go.Proofs.Tryz.func231 rfl rfl fun w0 X0 => ?_
 repeat' (first|apply Ac|apply Aa|apply Ab|(apply Af;(iterate 3 exact J);(first|(apply Ao;exact J;intro b;skip)))|(apply Bf (n:=1) [0,2,3,6,7,8,1,4,5,9,10,11] [(0,0),(1,0),(2,0),(3,0),(4,0),(5,0),(6,0),(7,0),(8,1),(9,0),(10,0),(11,1)];kernel_rfl)|(apply Ce;exact J;kernel_rfl;(iterate 3 exact J))|(apply Bj;exact J;kernel_rfl;(iterate 3 exact J);exact QM;exact J;exact J)|(apply Br;exact J;kernel_rfl;(iterate 3 exact J);(first|(apply Ah;(iterate 3 exact J);exact QR;(iterate 3 exact J);refine ⟨Le.refl _,QN,?_⟩)))|(apply Bm;kernel_rfl;exact J))
 exact Cs (Es':=[Blk bq 47 (Lw { x with club:=r.club,lo:=r.lo,hi:=r.hi })]) QT (Fe (rs:=[]) (vs:=[]) rfl rfl trivial ⟨rfl,rfl⟩)
theorem rk13_c (h:Ro)(bq:Nat)(r x:Iz):Fn Tryz.prog 233 #[Ta r,.pointer (some ⟨bq,0,none⟩)] [Blk bq 47 (Lw x)] h (Hu bq 47 (Lw { x with player:=r.player,lo:=r.lo,hi:=r.hi })):=by
 refine Bo (args:=[_,_]) ts_ok Go.Proofs.Tryz.func233 rfl rfl fun w0 X0 => ?_
 repeat' (first|apply Ac|apply Aa|apply Ab|(apply Af;(iterate 3 exact J);(first|(apply Ao;exact J;intro b;skip)))|(apply Bf (n:=1) [0,2,3,6,7,8,1,4,5,9,10,11] [(0,0),(1,0),(2,0),(3,0),(4,0),(5,0),(6,0),(7,0),(8,1),(9,0),(10,0),(11,1)];kernel_rfl)|(apply Ce;exact J;kernel_rfl;(iterate 3 exact J))|(apply Bj;exact J;kernel_rfl;(iterate 3 exact J);exact QM;exact J;exact J)|(apply Br;exact J;kernel_rfl;(iterate 3 exact J);(first|(apply Ah;(iterate 3 exact J);exact QR;(iterate 3 exact J);refine ⟨Le.refl _,QN,?_⟩)))|(apply Bm;kernel_rfl;exact J))
 exact Cs (Es':=[Blk bq 47 (Lw { x with player:=r.player,lo:=r.lo,hi:=r.hi })]) QT (Fe (rs:=[]) (vs:=[]) rfl rfl trivial ⟨rfl,rfl⟩)
theorem rk15_c (h:Ro)(bq:Nat)(r x:Iz):Fn Tryz.prog 235 #[Ta r,.pointer (some ⟨bq,0,none⟩)] [Blk bq 47 (Lw x)] h (Hu bq 47 (Lw { x with club:=r.club,amount:=r.amount })):=by
 refine Bo (args:=[_,_]) ts_ok Go.Proofs.Tryz.func235 rfl rfl fun w0 X0 => ?_
 repeat' (first|apply Ac|apply Aa|apply Ab|(apply Af;(iterate 3 exact J);(first|(apply Ao;exact J;intro b;skip)))|(apply Bf (n:=1) [0,2,3,6,7,8,1,4,5,9,10,11] [(0,0),(1,0),(2,0),(3,0),(4,0),(5,0),(6,0),(7,0),(8,1),(9,0),(10,0),(11,1)];kernel_rfl)|(apply Ce;exact J;kernel_rfl;(iterate 3 exact J))|(apply Bj;exact J;kernel_rfl;(iterate 3 exact J);exact QM;exact J;exact J)|(apply Br;exact J;kernel_rfl;(iterate 3 exact J);(first|(apply Ah;(iterate 3 exact J);exact QR;(iterate 3 exact J);refine ⟨Le.refl _,QN,?_⟩)))|(apply Bm;kernel_rfl;exact J))
 exact Cs (Es':=[Blk bq 47 (Lw { x with club:=r.club,amount:=r.amount })]) QT (Fe (rs:=[]) (vs:=[]) rfl rfl trivial ⟨rfl,rfl⟩)
theorem rk17_c (h:Ro)(bq:Nat)(r x:Iz):Fn Tryz.prog 237 #[Ta r,.pointer (some ⟨bq,0,none⟩)] [Blk bq 47 (Lw x)] h (Hu bq 47 (Lw x)):=by
 refine Bo (args:=[_,_]) ts_ok Go.Proofs.Tryz.func237 rfl rfl fun w0 X0 => ?_
 repeat' (first|apply Aa|apply Ab|(apply Af;(iterate 3 exact J);(first|(apply Ao;exact J;intro b;skip))))
 exact Cs (Es':=[Blk bq 47 (Lw x)]) QT (Fe (rs:=[]) (vs:=[]) rfl rfl trivial ⟨rfl,rfl⟩)
def shV (p:Value×Value):Value:=.agg #[p.1,p.2]
def kL (l:List (Int×(Value×Value))):List (Int×(Value×Value)):=l.foldl (fun m p=>Jo p.1 p.2 m) []
theorem To {κ α:Type}[DecidableEq κ](x y:κ)(a:α):∀ (m:List (κ×α)),Cv y (Jo x a m)=if x=y then some a else Cv y m
 | []=>by simp [Jo,Cv]
 | (z,b)::r=>by
   by_cases hz:z=x
   · subst hz
     by_cases hy:z=y
     · simp [Jo,Cv,hy]
     · simp [Jo,Cv,hy]
   · by_cases hy:z=y
     · subst hy
       simp [Jo,Cv,hz,Ne.symm hz]
     · simp [Jo,Cv,hz,hy,To x y a r]
theorem A2a {C:Ctx}{l:Sl}{Es Es':List Asn}{h:Ro}{G:Value→List Asn→Ro→Prop}{ty:TypeId}{pos:String}{aft:Array Edge}{gd:Option (Nat×Bool)}{dst:Option Tmp}{t e:TypeId}{x y v:Operand}{b:Nat}{key:Int}{p q:Value}{m:List (Int×(Value×Value))}{T:Ty}
  (K:Vn C.P 3 (fun i:Int=>.int .i64 i)) (hT:Cu t C.ts=some T) (hTd:T.desc=.map 3 e) (hx:evl l x=some (.map (some b))) (hy:evl l y=some (.int .i64 key)) (hv:evl l v=some (.agg #[p,q]))
  (hR:Nu Es (Dk (fun i:Int=>.int .i64 i) shV b m) (Dk (fun i:Int=>.int .i64 i) shV b (Jo key (p,q) m)) Es') (g:G undef Es' h):Hq C l Es h ⟨dst,.insert t x y v,ty,pos,aft,gd⟩ G :=
 Ng K hT hTd hx hy hv (u:=(p,q)) rfl hR g
def fnV (f:Nat) (cs:List Value):Value:=.func (.func f) #[] cs.toArray
def rulL (b1 b2:Nat):List (Int×(Value×Value)):=kL [
 (1,(fnV 223 [.pointer (some ⟨b1,0,none⟩)],fnV 224 [])),
 (2,(fnV 220 [],fnV 225 [])),
 (3,(fnV 226 [.pointer (some ⟨b1,0,none⟩)],fnV 227 [])),
 (4,(fnV 228 [],fnV 229 [])),
 (5,(fnV 230 [.pointer (some ⟨b2,0,none⟩)],fnV 231 [])),
 (6,(fnV 232 [.pointer (some ⟨b2,0,none⟩)],fnV 233 [])),
 (7,(fnV 234 [],fnV 235 [])),
 (8,(fnV 236 [],fnV 237 []))]
theorem Rr (h:Ro):Fn Tryz.prog 180 #[] [] h fun v Es h'=>∃ bm b1 b2,v=.map (some bm)∧Es=[Dk (fun i:Int=>.int .i64 i) shV bm (rulL b1 b2)]∧Ita h' b1∧Iya h' b2:=by
 refine Bo (args:=[]) ts_ok Go.Proofs.Tryz.func180 rfl rfl fun w0 X0 => ?_
 repeat' (first|apply Ac|apply Aa|apply Ab|(apply Ad;(iterate 3 exact J))|(apply Ai;exact J;exact Av rfl QM rfl;exact J;exact J)|(apply Af;(iterate 3 exact J);(first|(apply Ah;(iterate 3 exact J);exact QR;(iterate 3 exact J);skip)|(apply Ag;exact J;intro b;skip)|(apply Et (fun i:Int=>.int .i64 i) shV;intro bm;skip)|(apply A2a K7;(iterate 5 exact J);exact QR;skip))))
 rename_i b1
 refine Gf (b:=b1) QK ?_
 intro h1 hle1 hc1
 refine Gf (b:=b) QK ?_
 intro h2 hle2 hc2
 exact Ca rfl rfl rfl (List.Sublist.refl _) ⟨bm,b1,b,rfl,rfl,hc1.le hle2,hc2⟩
def Nt (r:Iz):Iz:={ Ps with case:=r.case,inst:=r.inst,kind:=r.kind }
def RulK (r:Iz) (b1 b2:Nat) (g:Nat) (gcs:List Value) (kf:Nat) (gb:Bool):Prop :=
 Cv r.kind (rulL b1 b2)=some (fnV g gcs,fnV kf [])∧Has Tryz.prog g∧Has Tryz.prog kf∧(gb=true↔Gk r)∧(∀ h',Ita h' b1→Iya h' b2→Val Tryz.prog g ([]++[Ta r]++gcs).toArray h' (.bool gb)) ∧
 ∀ h' bq,Fn Tryz.prog kf ([]++[Ta r,.pointer (some ⟨bq,0,none⟩)]++[]).toArray [Blk bq 47 (Lw (Nt r))] h' (Hu bq 47 (Lw (Ry r)))
theorem Id (b1 b2:Nat)(k:Int):Cv k (rulL b1 b2) =
  if 8=k then some (fnV 236 [],fnV 237 [])
  else if 7=k then some (fnV 234 [],fnV 235 [])
  else if 6=k then some (fnV 232 [.pointer (some ⟨b2,0,none⟩)],fnV 233 [])
  else if 5=k then some (fnV 230 [.pointer (some ⟨b2,0,none⟩)],fnV 231 [])
  else if 4=k then some (fnV 228 [],fnV 229 [])
  else if 3=k then some (fnV 226 [.pointer (some ⟨b1,0,none⟩)],fnV 227 [])
  else if 2=k then some (fnV 220 [],fnV 225 [])
  else if 1=k then some (fnV 223 [.pointer (some ⟨b1,0,none⟩)],fnV 224 [])
  else none:=by
 unfold rulL kL
 simp only [List.foldl_cons,List.foldl_nil,To,Cv]
theorem Ny {r:Iz}{b1 b2:Nat}{g:Nat}{gcs:List Value}{kf:Nat}{gb:Bool}{x:Iz}(hl:Cv r.kind (rulL b1 b2)=some (fnV g gcs,fnV kf []))(hg:Has Tryz.prog g)(hk:Has Tryz.prog kf)(hgb:gb=true↔Gk r)
 (hv:∀ h',Ita h' b1→Iya h' b2→Val Tryz.prog g ([]++[Ta r]++gcs).toArray h' (.bool gb)) (hx:x=Ry r) (hf:∀ h' bq,Fn Tryz.prog kf ([]++[Ta r,.pointer (some ⟨bq,0,none⟩)]++[]).toArray [Blk bq 47 (Lw (Nt r))] h' (Hu bq 47 (Lw x))) :
 ∃ g gcs kf gb,RulK r b1 b2 g gcs kf gb:=⟨g,gcs,kf,gb,hl,hg,hk,hgb,hv,hx ▸ hf⟩
theorem Jea (r:Iz)(b1 b2:Nat)(hk:1≤r.kind∧r.kind≤8):∃ g gcs kf gb,RulK r b1 b2 g gcs kf gb:=by
 have:r.kind=1∨r.kind=2∨r.kind=3∨r.kind=4∨r.kind=5∨r.kind=6∨r.kind=7∨r.kind=8:=by omega
 rcases this with e|e|e|e|e|e|e|e
 · exact Ny (by rw [Id,e];rfl) has223 has224 (by rw [decide_eq_true_eq,Gk,e];rfl) (fun h' h1 h2=>rk3_c h' b1 h1 r) (by simp [Ry,Nt,Ps,e]) (fun h' bq=>rk4_c h' bq r (Nt r))
 · exact Ny (by rw [Id,e];rfl) has220 has225 (by rw [decide_eq_true_eq,Gk,e];rfl) (fun h' h1 h2=>rk1_c h' r) (by simp [Ry,Nt,Ps,e]) (fun h' bq=>rk5_c h' bq r (Nt r))
 · exact Ny (by rw [Id,e];rfl) has226 has227 (by rw [decide_eq_true_eq,Gk,e];rfl) (fun h' h1 h2=>rk6_c h' b1 h1 r) (by simp [Ry,Nt,Ps,e]) (fun h' bq=>rk7_c h' bq r (Nt r))
 · exact Ny (by rw [Id,e];rfl) has228 has229 (by rw [decide_eq_true_eq,Gk,e];rfl) (fun h' h1 h2=>rk8_c h' r) (by simp [Ry,Nt,Ps,e]) (fun h' bq=>rk9_c h' bq r (Nt r))
 · exact Ny (by rw [Id,e];rfl) has230 has231 (by rw [decide_eq_true_eq,Gk,e];rfl) (fun h' h1 h2=>rk10_c h' b2 h2 r) (by simp [Ry,Nt,Ps,e]) (fun h' bq=>rk11_c h' bq r (Nt r))
 · exact Ny (by rw [Id,e];rfl) has232 has233 (by rw [decide_eq_true_eq,Gk,e];rfl) (fun h' h1 h2=>rk12_c h' b2 h2 r) (by simp [Ry,Nt,Ps,e]) (fun h' bq=>rk13_c h' bq r (Nt r))
 · exact Ny (by rw [Id,e];rfl) has234 has235 (by rw [decide_eq_true_eq,Gk,e];rfl) (fun h' h1 h2=>rk14_c h' r) (by simp [Ry,Nt,Ps,e]) (fun h' bq=>rk15_c h' bq r (Nt r))
 · exact Ny (by rw [Id,e];rfl) has236 has237 (by rw [Gk,e];simp) (fun h' h1 h2=>rk16_c h' r) (by simp [Ry,Nt,Ps,e]) (fun h' bq=>rk17_c h' bq r (Nt r))
theorem Jda (r:Iz)(b1 b2:Nat)(hk:¬ (1≤r.kind∧r.kind≤8)):Cv r.kind (rulL b1 b2)=none∧¬ Gk r:=by
 constructor
 · rw [Id]
   repeat rw [if_neg (by omega)]
 · rw [Gk]
   repeat rw [if_neg (by omega)]
   omega
open Classical in
theorem ruling_c (h:Ro)(r:Iz):Val Tryz.prog 130 #[Ta r] h (.bool (decide (Fsa r))):=by
 refine Az (args:=[_]) ts_ok Go.Proofs.Tryz.func130 rfl rfl fun w0 X0 => ?_
 by_cases hk:1≤r.kind∧r.kind≤8
 · repeat' (first|apply Ac|apply Au|apply Aa|apply Ab|(apply Aw;exact J;exact J)|(apply Ad;(iterate 3 exact J))|(apply Ai;exact J;exact Av rfl QM rfl;exact J;exact J)|(apply Bd;exact J;exact J;(first|(apply Ys;exact J;exact J;exact rul_eq (Ry r) r;kernel_rfl;kernel_rfl));exact QA)|(apply Af;(iterate 3 exact J);(first|(apply Ah;(iterate 3 exact J);exact QR;(iterate 3 exact J);skip)|(apply Ao;exact J;intro b;skip)|(apply Ag;exact J;intro b;skip)|(apply Cd (f:=g) (fs:=[]) (cs:=gcs);exact J;exact J;exact hg;exact hv _ hG hD;skip)|(apply Fp (f:=kf) (fs:=[]) (cs:=[]);exact J;exact J;exact hkf;exact hf _ _;exact QT;rintro v1 E1 h1 hle1 ⟨rfl,rfl⟩;skip)))|(apply Bf (n:=1) [0,1,2,3,4,5,7,8,6,9] [(1,0),(2,0),(0,2),(7,7),(3,0),(4,0),(5,0),(6,0),(7,1),(8,1),(9,0),(0,1),(3,0),(4,0),(5,0),(6,0),(8,1),(9,0)];kernel_rfl)|(apply Ce;exact J;kernel_rfl;(iterate 3 exact J))|(apply Bj;exact J;kernel_rfl;(iterate 3 exact J);exact QM;exact J;exact J)|(apply De;exact J;kernel_rfl;exact J;exact J;(first|(apply If (ek:=fun i:Int=>.int .i64 i) (ev:=shV) (key:=r.kind) (m:=rulL b1 b2) (r:=some (fnV g gcs,fnV kf [])) K7;(iterate 5 exact J);exact hl));exact QA)|(apply Br;exact J;kernel_rfl;(iterate 3 exact J);(first|(apply Ah;(iterate 3 exact J);exact QR;(iterate 3 exact J);refine ⟨Le.refl _,QN,?_⟩)|(apply Ag;exact J;intro b;refine ⟨Le.refl _,QN,?_⟩)|(apply Bi;exact J;exact Jza;exact Rr _;exact QT;rintro v0 E0 h0 hle0 ⟨bm,b1,b2,rfl,rfl,hG,hD⟩;obtain ⟨g,gcs,kf,gb,hl,hg,hkf,hgb,hv,hf⟩:=Jea r b1 b2 hk;refine ⟨hle0,QN,?_⟩)))|(apply Ia;kernel_rfl;exact J;exact J)|(apply Cj;(iterate 4 exact J);(first|(apply Ag;exact J;intro b;refine ⟨Le.refl _,QN,?_⟩)|(apply Bi;exact J;exact Jza;exact Rr _;exact QT;rintro v0 E0 h0 hle0 ⟨bm,b1,b2,rfl,rfl,hG,hD⟩;obtain ⟨g,gcs,kf,gb,hl,hg,hkf,hgb,hv,hf⟩:=Jea r b1 b2 hk;refine ⟨hle0,QN,?_⟩)))|(apply Bm;kernel_rfl;exact J)|(apply Aj;exact J;all_goals (intro hc;try simp only [hcS,reduceCtorEq] at hc;try (exfalso;omega)))|(apply Ba;exact J;exact J;all_goals (intro hc;try simp only [hcS,reduceCtorEq] at hc;try (exfalso;omega))))
   all_goals (first|(apply Bb;(iterate 3 exact J)))
   all_goals (refine Dg ?_;unfold Fsa;grind)
 · repeat' (first|apply Ac|apply Aa|apply Ab|(apply Aw;exact J;exact J)|(apply Ad;(iterate 3 exact J))|(apply Af;(iterate 3 exact J);(first|(apply Ao;exact J;intro b;skip)))|(apply Bf (n:=1) [0,1,2,3,4,5,7,8,6,9] [(1,0),(2,0),(0,2),(7,7),(3,0),(4,0),(5,0),(6,0),(7,1),(8,1),(9,0),(0,1),(3,0),(4,0),(5,0),(6,0),(8,1),(9,0)];kernel_rfl)|(apply Ce;exact J;kernel_rfl;(iterate 3 exact J))|(apply Bj;exact J;kernel_rfl;(iterate 3 exact J);exact QM;exact J;exact J)|(apply De;exact J;kernel_rfl;exact J;exact J;(first|(apply If (ek:=fun i:Int=>.int .i64 i) (ev:=shV) (key:=r.kind) (m:=rulL b1 b2) (r:=none) K7;(iterate 5 exact J);exact hl.1));exact QA)|(apply Br;exact J;kernel_rfl;(iterate 3 exact J);(first|(apply Ah;(iterate 3 exact J);exact QR;(iterate 3 exact J);refine ⟨Le.refl _,QN,?_⟩)|(apply Ag;exact J;intro b;refine ⟨Le.refl _,QN,?_⟩)|(apply Bi;exact J;exact Jza;exact Rr _;exact QT;rintro v0 E0 h0 hle0 ⟨bm,b1,b2,rfl,rfl,hG,hD⟩;have hl:=Jda r b1 b2 hk;refine ⟨hle0,QN,?_⟩)))|(apply Ia;kernel_rfl;exact J;exact J)|(apply Cj;(iterate 4 exact J);(first|(apply Ag;exact J;intro b;refine ⟨Le.refl _,QN,?_⟩)|(apply Bi;exact J;exact Jza;exact Rr _;exact QT;rintro v0 E0 h0 hle0 ⟨bm,b1,b2,rfl,rfl,hG,hD⟩;have hl:=Jda r b1 b2 hk;refine ⟨hle0,QN,?_⟩)))|(apply Bm;kernel_rfl;exact J)|(apply Aj;exact J;all_goals (intro hc;try simp only [hcS,reduceCtorEq] at hc;try (exfalso;omega))))
   all_goals (first|(apply Bb;(iterate 3 exact J)))
   all_goals (refine Dg ?_;unfold Fsa;grind)
end Go.Hw

import Derived.Test.YtlnenhhbalpbpaaGreatDoorFA
import Derived.Test.YtlnenhhbalpbpaaGreatDoorHC
import Derived.Test.YtlnenhhbalpbpaaGreatDoorMT
set_option linter.all false
namespace Go.Hw
open Go
structure Sli where
 A:Option Addr
 n:Nat
 c:Nat
def Gt:Sli:=⟨none,0,0⟩
structure Fsh where
 cl:Sli
 hs:Sli
 «as» : Sli
 hc:Sli
 ac:Sli
 lo:Sli
def Ga:Fsh:=⟨Gt,Gt,Gt,Gt,Gt,Gt⟩
def Ox (c:Dx):List Value:=[.int .i64 c.p,.bool c.red]
def Cx (g:Ak):List Value:=[.int .i64 g.s,.int .i64 g.c,.int .i64 g.h,.int .i64 g.a]
def Mn (s:Fsh) (x:Ce):List Value:=[.int .i64 x.g.s,.int .i64 x.g.c,.int .i64 x.g.h,.int .i64 x.g.a,.int .i64 x.ref,.int .i64 x.hg,.int .i64 x.ag,.int .i64 x.hp,.int .i64 x.ap,
 .slice s.hs.A s.hs.n s.hs.c,.slice s.as.A s.as.n s.as.c,.slice s.hc.A s.hc.n s.hc.c,.slice s.ac.A s.ac.n s.ac.c]
def Iy (r:Fk):List Value:=[.int .i64 r.case,.int .i64 r.inst,.int .i64 r.kind,.int .i64 r.g.s,.int .i64 r.g.c,.int .i64 r.g.h,.int .i64 r.g.a,.int .i64 r.club,.int .i64 r.player,
 .int .i64 r.season,.int .i64 r.comp,.int .i64 r.points,.int .i64 r.amount,.int .i64 r.hg,.int .i64 r.ag,.int .i64 r.lo,.int .i64 r.hi]
def vB (l:List UInt8) (i:Nat):Value:=.int .u8 ((l.getD i 0).toNat:Int)
def Cta (v:List UInt8):List Value:=[vB v 0,vB v 1,vB v 2,vB v 3,vB v 4,vB v 5,vB v 6,vB v 7,vB v 8,vB v 9,vB v 10,vB v 11,vB v 12,vB v 13,vB v 14,vB v 15,
 vB v 16,vB v 17,vB v 18,vB v 19,vB v 20,vB v 21,vB v 22,vB v 23,vB v 24,vB v 25,vB v 26,vB v 27,vB v 28,vB v 29,vB v 30,vB v 31]
def Df (s:Fsh) (x:Fct):List Value:=[.int .i64 x.kind,.int .i64 x.day,.int .i64 x.known,.int .i64 x.eS,.int .i64 x.eC,.slice s.cl.A s.cl.n s.cl.c,.string (str x.eRules),
 .int .i64 x.fg.s,.int .i64 x.fg.c,.int .i64 x.fg.h,.int .i64 x.fg.a,.int .i64 x.venue,
 .int .i64 x.sh.g.s,.int .i64 x.sh.g.c,.int .i64 x.sh.g.h,.int .i64 x.sh.g.a,.int .i64 x.sh.ref,.int .i64 x.sh.hg,.int .i64 x.sh.ag,.int .i64 x.sh.hp,.int .i64 x.sh.ap,
 .slice s.hs.A s.hs.n s.hs.c,.slice s.as.A s.as.n s.as.c,.slice s.hc.A s.hc.n s.hc.c,.slice s.ac.A s.ac.n s.ac.c,
 .int .i64 x.ru.case,.int .i64 x.ru.inst,.int .i64 x.ru.kind,.int .i64 x.ru.g.s,.int .i64 x.ru.g.c,.int .i64 x.ru.g.h,.int .i64 x.ru.g.a,.int .i64 x.ru.club,.int .i64 x.ru.player,
 .int .i64 x.ru.season,.int .i64 x.ru.comp,.int .i64 x.ru.points,.int .i64 x.ru.amount,.int .i64 x.ru.hg,.int .i64 x.ru.ag,.int .i64 x.ru.lo,.int .i64 x.ru.hi,
 .int .i64 x.aCase,.int .i64 x.aInst,.bool x.aSusp,.int .i64 x.mP,.int .i64 x.mTo,.int .i64 x.lS,.int .i64 x.lC,.slice s.lo.A s.lo.n s.lo.c,
 vB x.void 0,vB x.void 1,vB x.void 2,vB x.void 3,vB x.void 4,vB x.void 5,vB x.void 6,vB x.void 7,vB x.void 8,vB x.void 9,vB x.void 10,vB x.void 11,vB x.void 12,vB x.void 13,vB x.void 14,vB x.void 15,
 vB x.void 16,vB x.void 17,vB x.void 18,vB x.void 19,vB x.void 20,vB x.void 21,vB x.void 22,vB x.void 23,vB x.void 24,vB x.void 25,vB x.void 26,vB x.void 27,vB x.void 28,vB x.void 29,vB x.void 30,vB x.void 31]
def De (g:Ak):Value:=.agg (Cx g).toArray
def Kq (s:Fsh) (x:Ce):Value:=.agg (Mn s x).toArray
def Lk (r:Fk):Value:=.agg (Iy r).toArray
def Br (s:Fsh) (x:Fct):Value:=.agg (Df s x).toArray
def Ug (s:Fsh) (x:Fct):Value:=.agg [.int .i64 x.eS,.int .i64 x.eC,.slice s.cl.A s.cl.n s.cl.c,.string (str x.eRules)].toArray
def lotV (s:Fsh) (x:Fct):Value:=.agg [.int .i64 x.lS,.int .i64 x.lC,.slice s.lo.A s.lo.n s.lo.c].toArray
structure Kj (h:Ro) (s:Fsh) (x:Ce):Prop where
 hs:Ar Cu 1 h s.hs.A s.hs.n x.hs
 «as» : Ar Cu 1 h s.as.A s.as.n x.as
 hc:Ar Ox 2 h s.hc.A s.hc.n x.hc
 ac:Ar Ox 2 h s.ac.A s.ac.n x.ac
structure FAt (h:Ro) (s:Fsh) (x:Fct):Prop where
 sh:Kj h s x.sh
 cl:Ar Cu 1 h s.cl.A s.cl.n x.eClubs
 lo:Ar Cu 1 h s.lo.A s.lo.n x.lO
 void:x.void.length=32
 lc:s.lo.n≤s.lo.c
theorem Kj.le {h h':Ro}{s:Fsh}{x:Ce}(a:Kj h s x)(hl:Le h h'):Kj h' s x:=⟨a.hs.le hl,a.as.le hl,a.hc.le hl,a.ac.le hl⟩
theorem FAt.le {h h':Ro}{s:Fsh}{x:Fct}(a:FAt h s x)(hl:Le h h'):FAt h' s x:=⟨a.sh.le hl,a.cl.le hl,a.lo.le hl,a.void,a.lc⟩
def Tu (x:Ce):Prop:=x.hs.length≤9223372036854775807∧x.as.length≤9223372036854775807∧x.hc.length≤9223372036854775807∧x.ac.length≤9223372036854775807
def FSm (x:Fct):Prop:=Tu x.sh∧x.eClubs.length≤9223372036854775807∧x.lO.length≤9223372036854775807∧x.eRules.length≤9223372036854775807
def Coa (x:Fct):Prop:=(x.sh.hs.length≤100∧x.sh.as.length≤100∧x.sh.hc.length≤100∧x.sh.ac.length≤100)∧x.eClubs.length≤100∧x.lO.length≤100∧x.eRules.length≤100
theorem FAt.small1 {h:Ro}{s:Fsh}{x:Fct}(a:FAt h s x)(b:Coa x):s.hs.n≤100∧s.as.n≤100∧s.hc.n≤100∧s.ac.n≤100∧s.cl.n≤100∧s.lo.n≤100:=by
 have h1:=a.sh.hs.len;have h2:=a.sh.as.len;have h3:=a.sh.hc.len;have h4:=a.sh.ac.len;have h5:=a.cl.len;have h6:=a.lo.len
 obtain ⟨⟨b1,b2,b3,b4⟩,b5,b6,b7⟩:=b
 omega
theorem Pa.len {s:List UInt8}(a:Pa s):s.length≤24:=a.2.1
theorem Bm.sm1 {f:Fct}(a:Bm f):Coa f:=by
 obtain ⟨-,-,hc,ho⟩:=a
 unfold Cw at hc
 unfold Lo at ho
 unfold Coa
 have hz:∀ x:Fct,f=x→x.sh=f.sh∧x.eClubs=f.eClubs∧x.lO=f.lO∧x.eRules=f.eRules:=fun x e=>by rw [e];exact ⟨rfl,rfl,rfl,rfl⟩
 by_cases h1:f.kind=1
 · rw [if_pos h1] at hc
   simp only [if_pos h1] at ho
   obtain ⟨q1,q2,q3,q4⟩:=hz _ ho.symm
   rw [← q1,← q3]
   have hr:f.eRules.length≤100:=by
    have:=hc.2.2.2.2
    split at this
    · have:=this.len;omega
    · rw [this];simp
   have:=hc.2.2.1.2.1
   exact ⟨by simp [Ef,Fd],by omega,by simp [Ef],hr⟩
 rw [if_neg h1] at hc
 simp only [if_neg h1] at ho
 by_cases h2:f.kind=2
 · simp only [if_pos h2] at ho
   obtain ⟨q1,q2,q3,q4⟩:=hz _ ho.symm
   rw [← q1,← q2,← q3,← q4]
   simp [Ef,Fd]
 rw [if_neg h2] at hc
 simp only [if_neg h2] at ho
 by_cases h3:f.kind=3
 · rw [if_pos h3] at hc
   simp only [if_pos h3] at ho
   obtain ⟨q1,q2,q3,q4⟩:=hz _ ho.symm
   rw [← q2,← q3,← q4]
   obtain ⟨-,-,-,-,-,a1,a2,a3,a4,-⟩:=hc
   have b1:=a1.1
   have b2:=a2.1
   have b3:=a3.1
   have b4:=a4.1
   exact ⟨⟨by omega,by omega,by omega,by omega⟩,by simp [Ef],by simp [Ef],by simp [Ef]⟩
 rw [if_neg h3] at hc
 simp only [if_neg h3] at ho
 by_cases h4:f.kind=4
 · simp only [if_pos h4] at ho
   obtain ⟨q1,q2,q3,q4⟩:=hz _ ho.symm
   rw [← q1,← q2,← q3,← q4]
   simp [Ef,Fd]
 rw [if_neg h4] at hc
 simp only [if_neg h4] at ho
 by_cases h5:f.kind=5
 · simp only [if_pos h5] at ho
   obtain ⟨q1,q2,q3,q4⟩:=hz _ ho.symm
   rw [← q1,← q2,← q3,← q4]
   simp [Ef,Fd]
 rw [if_neg h5] at hc
 simp only [if_neg h5] at ho
 by_cases h6:f.kind=6
 · simp only [if_pos h6] at ho
   obtain ⟨q1,q2,q3,q4⟩:=hz _ ho.symm
   rw [← q1,← q2,← q3,← q4]
   simp [Ef,Fd]
 rw [if_neg h6] at hc
 simp only [if_neg h6] at ho
 by_cases h7:f.kind=7
 · rw [if_pos h7] at hc
   simp only [if_pos h7] at ho
   obtain ⟨q1,q2,q3,q4⟩:=hz _ ho.symm
   rw [← q1,← q2,← q4]
   have:=hc.2.2.1.2.1
   exact ⟨by simp [Ef,Fd],by simp [Ef],by omega,by simp [Ef]⟩
 simp only [if_neg h7] at ho
 obtain ⟨q1,q2,q3,q4⟩:=hz _ ho.symm
 rw [← q1,← q2,← q3,← q4]
 simp [Ef,Fd]
theorem Kj.nil (h:Ro):Kj h Ga Fd:=⟨Ar.nil,Ar.nil,Ar.nil,Ar.nil⟩
theorem FAt.nil (h:Ro):FAt h Ga Ef:=⟨Kj.nil h,Ar.nil,Ar.nil,rfl,Nat.le_refl _⟩
def Aq (p:Fsh×Fct):List Value:=Df p.1 p.2
theorem Bc (p:Fsh×Fct):(Aq p).length=82:=rfl
theorem factC_one (s:Fsh)(x:Fct):Nc (Df s x)=true:=rfl
end Go.Hw
set_option maxRecDepth 100000
set_option maxHeartbeats 1600000
namespace Go.Hw
open Go
attribute [local irreducible] GO GOl GDp Val Fn Res Ab Du Blk Bd Cd Bf Has
open Go.Proofs.Tryz (prog)
theorem below7_c (h:Ro)(n m:Int):Val prog 102 #[.int .i64 n,.int .i64 m] h (.bool (decide (Bel n m))):=by
 refine QXV Proofs.Tryz.func102 fun w0 X0=>?_
 repeat' (first|refine QF ?_|refine QJ ?_|(refine QI ?_ ?_<;>intro hc<;>try omega)|(apply Ac;(iterate 3 exact J)))
 all_goals (simp only [Iya,Value.bool.injEq];first|(rw [decide_eq_decide];unfold Bel;omega)|(symm;rw [decide_eq_false_iff_not];unfold Bel;omega))
theorem G9a (h:Ro)(n:Int):Val prog 60 #[.int .i64 n] h (.bool (decide (Bel n 192))):=by
 refine QXV Proofs.Tryz.func60 fun w0 X0=>?_
 repeat' (first|refine QF ?_|(refine QG ?_;first|(refine QBz ?_))|(apply Ac;(iterate 3 exact J)))
 all_goals rfl
theorem Vq (h:Ro)(n:Int):Val prog 162 #[.int .i64 n] h (.bool (decide (Bel n 8192))):=by
 refine QXV Proofs.Tryz.func162 fun w0 X0=>?_
 repeat' (first|refine QF ?_|(refine QG ?_;first|(refine QBz ?_))|(apply Ac;(iterate 3 exact J)))
 all_goals rfl
theorem Jea (h:Ro)(n:Int):Val prog 211 #[.int .i64 n] h (.bool (decide (Bel n 100))):=by
 refine QXV Proofs.Tryz.func211 fun w0 X0=>?_
 repeat' (first|refine QF ?_|(refine QG ?_;first|(refine QBz ?_))|(apply Ac;(iterate 3 exact J)))
 all_goals rfl
theorem day7_c (h:Ro)(n:Int):Val prog 100 #[.int .i64 n] h (.bool (decide (Bel n 1048577))):=by
 refine QXV Proofs.Tryz.func100 fun w0 X0=>?_
 repeat' (first|refine QF ?_|(refine QG ?_;first|(refine QBz ?_))|(apply Ac;(iterate 3 exact J)))
 all_goals rfl
theorem Lsa (h:Ro)(n m:Int):Val prog 59 #[.int .i64 n,.int .i64 m] h (.bool (decide (Bel n 64∧Bel m 16))):=by
 refine QXV Proofs.Tryz.func59 fun w0 X0=>?_
 repeat' (first|refine QF ?_|(refine QG ?_;first|(refine QBz ?_))|refine QJ ?_|(refine QI ?_ ?_<;>intro hc<;>try omega)|(apply Ac;(iterate 3 exact J)))
 all_goals (simp only [Value.bool.injEq];first|(rw [decide_eq_decide];simp [*];done)|(symm;rw [decide_eq_false_iff_not];simp [*];done))
theorem Wm (h:Ro)(g:Ak):Val prog 26 #[De g] h (.int .i64 (if Dh g then 0 else 70)):=by
 refine QXV Proofs.Tryz.func26 fun w0 X0=>?_
 repeat' (first|refine QF ?_|(refine QB ?_;intro b)|(refine QG ?_;first|(refine QEj ?_)|(refine QDp ?_))|(refine QH ?_ ?_<;>intro hc<;>try omega)|refine QJ ?_|(refine QI ?_ ?_<;>intro hc<;>try omega)|(apply Ac;(iterate 3 exact J)))
 all_goals (first|(rw [if_neg (by unfold Dh;simp_all)];done)|(rw [if_pos (by unfold Dh;simp_all)];done))
theorem Bja {xs:List Int}:Yc xs↔∀ i,0<i→i<xs.length→xs.getD (i-1) 0<xs.getD i 0:=by
 constructor
 · intro h i h0 hi
   unfold Yc at h
   rw [List.pairwise_iff_getElem] at h
   have:=h (i-1) i QAd hi QAd
   simpa [List.getD,List.getElem?_eq_getElem hi,List.getElem?_eq_getElem (show i-1<xs.length by omega)] using this
 · intro h
   unfold Yc
   induction xs with
   | nil=>exact .nil
   | cons a r ih =>
     have hr:=ih (fun i h0 hi=>by
      have:=h (i+1) QAd QC8
      simp only [Nat.add_sub_cancel,List.getD_cons_succ] at this
      obtain ⟨j,rfl⟩:∃ j,i=j+1:=⟨i-1,by omega⟩
      simpa using this)
     refine .cons (fun b hb => ?_) hr
     cases r with
     | nil=>cases hb
     | cons c r =>
       have h1:a<c:=by have:=h 1 QAd QAn;simpa using this
       rw [List.pairwise_cons] at hr
       rcases List.mem_cons.1 hb with e|e
       · rw [e];exact h1
       · exact Int.lt_trans h1 (hr.1 b e)
open Classical in
theorem incr7_c (h:Ro)(A:Option Addr)(n c:Nat)(xs:List Int)(hx:Ar Cu 1 h A n xs)(hn:n≤9223372036854775807) :
  Val prog 208 #[.slice A n c] h (.bool (decide (Yc xs))):=by
 refine QXV Proofs.Tryz.func208 fun w0 X0=>?_
 have hlen:=hx.len
 repeat' (first|refine QF ?_|fail)
 refine Ai (X:=Nat) (fun k=>1≤k∧(k≤n∨k=1)∧∀ i,0<i→i<k→i<xs.length→xs.getD (i-1) 0<xs.getD i 0) (fun k=>n+1-k) (fun k=>[(3,.int .i64 k),(0,.slice A n c)]) (fun _=>[]) (fun _=>h) 1 ⟨by omega,by omega,fun i h0 h1=>by omega⟩ QS QT rfl ?_
 rintro k ⟨hk1,hk,hI⟩ ih
 by_cases hkn:k<n
 · have a1:=hx.addrD hkn
   have c1:=hx.cellsD 0 hkn
   have c2:=hx.cellsD 0 (show k-1<n by omega)
   have hs:=hI k
   generalize hg1:xs.getD k 0=u at *
   generalize hg2:xs.getD (k-1) 0=v at *
   repeat' (first|refine QF ?_|(apply Ad (n:=4) [0,1,2,3,4,5,6,7,8,9] [(0,0),(1,0),(2,0),(3,0),(4,0),(5,0),(6,0),(7,0),(8,0),(9,0)];kernel_rfl)|(apply Bk;exact J;kernel_rfl;exact J;exact J;(first|exact QAc|(apply Cg (j:=k-1);(iterate 5 exact J);exact a1;omega;omega)|exact QAf|exact QA2);exact QA)|(refine QH ?_ ?_<;>intro hc<;>try omega)|fail)
   · (first|(apply Ac;(iterate 3 exact J)))
     rw [decide_eq_false];intro hh;have:=Bja.1 hh k QAd QAd;omega
   · have h3:=ih (k+1) ⟨by omega,by omega,fun i h0 h1 h2=>by
      by_cases e:i=k
      · subst e;rw [hg1,hg2];assumption
      · exact hI i h0 QAd h2⟩ QAd
     refine Aj QS QT (h3)
 · repeat' (first|refine QF ?_|(refine QH ?_ ?_<;>intro hc<;>try omega)|(apply Ac;(iterate 3 exact J)))
   rw [decide_eq_true];exact Bja.2 fun i h0 h1=>hI i h0 QAd h1
end Go.Hw
namespace Go.Hw
open Go
attribute [local irreducible] GO GOl GDp Val Fn Res Ab Du Blk Bd Cd Bf Has
open Go.Proofs.Tryz (prog)
theorem Qz {b:Bool}{p:Prop}{inst:Decidable p}(h:b=true↔p):b=decide p:=by
 rw [Bool.eq_iff_iff,decide_eq_true_eq];exact h
theorem Bg {b:Bool}{p:Prop}{inst:Decidable p}(h:b=true↔p):Value.bool b=Value.bool (decide p):=by
 rw [Qz h]
def Mf {α:Type} (p:α→Bool):List α→Nat→Int
 | [],_ => -1
 | x::r,k=>if p x then k else Mf p r (k+1)
theorem Jf {α:Type}(p:α→Bool):∀ (l:List α) (k:Nat),0≤Mf p l k↔l.any p=true
 | [],k=>by simp [Mf]
 | a::r,k=>by
   have:=Jf p r (k+1)
   by_cases h:p a
   · simp [Mf,h]
   · simp [Mf,h,this]
theorem Bta {α:Type}(d:α){xs:List α}{k n:Nat}(hlen:xs.length=n)(hk:k<n):xs.drop k=xs.getD k d::xs.drop (k+1):=by
 rw [List.drop_eq_getElem_cons QAd];simp [List.getD,List.getElem?_eq_getElem (show k<xs.length by omega)]
theorem Cb {α:Type}(d:α){xs:List α}{k n:Nat}(hlen:xs.length=n)(hk:k<n):xs.take (k+1)=xs.take k++[xs.getD k d]:=by
 rw [List.take_add_one];simp [List.getD,List.getElem?_eq_getElem (show k<xs.length by omega)]
theorem mem7 {α:Type}(d:α){xs:List α}{k:Nat}(hk:k<xs.length):xs.getD k d∈xs:=by
 simp [List.getD,List.getElem?_eq_getElem hk]
theorem idxFI_c (h:Ro)(A:Option Addr)(n c:Nat)(l:List Int)(hx:Ar Cu 1 h A n l)(hn:n≤9223372036854775807)(f:FuncId)(fs cs:List Value)(p:Int→Bool)(hh:Has prog f)
  (hf:∀ x∈l,Val prog f (fs++[Value.int .i64 x]++cs).toArray h (.bool (p x))) :
  Val prog 116 #[.slice A n c,.func (.func f) fs.toArray cs.toArray] h (.int .i64 (Mf p l 0)):=by
 refine QXV Proofs.Tryz.func116 fun w0 X0=>?_
 have hlen:=hx.len
 repeat' (first|refine QF ?_|fail)
 refine Ai (X:=Nat) (fun k=>k≤n∧Mf p (l.drop k) k=Mf p l 0) (fun k=>n-k) (fun k=>[(8,.int .i64 k),(7,.int .i64 n),(0,.slice A n c),(1,.func (.func f) fs.toArray cs.toArray)]) (fun _=>[]) (fun _=>h) 0 ⟨by omega,rfl⟩ QS QT rfl ?_
 rintro k ⟨hk,hI⟩ ih
 by_cases hkn:k<n
 · have a1:=hx.addrD hkn
   have c1:=hx.cellsD 0 hkn
   have hd:=Bta 0 hlen hkn
   have hv:=hf _ (mem7 0 (show k<l.length by omega))
   generalize l.getD k 0=x at *
   repeat' (first|refine QF ?_|(apply Af;exact J;exact J;(first|exact QAc|exact QAf);exact QA)|(refine QG ?_;first|(refine QB7 ?_))|(refine QH ?_ ?_<;>intro hc<;>try omega)|(apply Ac;(iterate 3 exact J)))
   · rw [← hI,hd,Mf,if_pos hc]
   · have h3:=ih (k+1) ⟨by omega,by rw [← hI,hd,Mf,if_neg (by simp [hc])]⟩ QAd
     refine Aj QS QT (h3)
 · repeat' (first|refine QF ?_|(refine QH ?_ ?_<;>intro hc<;>try omega)|(apply Ac;(iterate 3 exact J)))
   rw [← hI,show k=l.length by omega,List.drop_length];rfl
theorem G5a (h:Ro)(A:Option Addr)(n c:Nat)(l:List Int)(hx:Ar Cu 1 h A n l)(hn:n≤9223372036854775807)(f:FuncId)(fs cs:List Value)(p:Int→Bool)(hh:Has prog f)
  (hf:∀ x∈l,Val prog f (fs++[Value.int .i64 x]++cs).toArray h (.bool (p x))) :
  Val prog 71 #[.slice A n c,.func (.func f) fs.toArray cs.toArray] h (.bool (l.any p)):=by
 refine QXV Proofs.Tryz.func71 fun w0 X0=>?_
 repeat' (first|refine QF ?_|(refine QG ?_;first|(apply Aa;exact J;exact has116;exact idxFI_c _ _ _ _ _ hx hn f fs cs p hh hf))|(apply Ac;(iterate 3 exact J)))
 rw [Wa];congr 1;rw [Bool.eq_iff_iff,decide_eq_true_eq];exact Jf _ _ _
def cardV (c:Dx):Value:=.agg (Ox c).toArray
def Dg:Dx:=⟨0,false⟩
theorem idxFC_c (h:Ro)(A:Option Addr)(n c:Nat)(l:List Dx)(hx:Ar Ox 2 h A n l)(hn:n≤9223372036854775807)(f:FuncId)(fs cs:List Value)(p:Dx→Bool)(hh:Has prog f)
  (hf:∀ x∈l,Val prog f (fs++[cardV x]++cs).toArray h (.bool (p x))) :
  Val prog 316 #[.slice A n c,.func (.func f) fs.toArray cs.toArray] h (.int .i64 (Mf p l 0)):=by
 refine QXV Proofs.Tryz.func316 fun w0 X0=>?_
 have hlen:=hx.len
 repeat' (first|refine QF ?_|fail)
 refine Ai (X:=Nat) (fun k=>k≤n∧Mf p (l.drop k) k=Mf p l 0) (fun k=>n-k) (fun k=>[(8,.int .i64 k),(7,.int .i64 n),(0,.slice A n c),(1,.func (.func f) fs.toArray cs.toArray)]) (fun _=>[]) (fun _=>h) 0 ⟨by omega,rfl⟩ QS QT rfl ?_
 rintro k ⟨hk,hI⟩ ih
 by_cases hkn:k<n
 · have a1:=hx.addrD hkn
   have c1:=hx.cellsD Dg hkn
   have hd:=Bta Dg hlen hkn
   have hv:=hf _ (mem7 Dg (show k<l.length by omega))
   generalize l.getD k Dg=x at *
   repeat' (first|refine QF ?_|(apply Af;exact J;exact J;(first|exact QAc|exact QAf);exact QA)|(refine QG ?_;first|(refine QB7 ?_))|(refine QH ?_ ?_<;>intro hc<;>try omega)|(apply Ac;(iterate 3 exact J)))
   · rw [← hI,hd,Mf,if_pos hc]
   · have h3:=ih (k+1) ⟨by omega,by rw [← hI,hd,Mf,if_neg (by simp [hc])]⟩ QAd
     refine Aj QS QT (h3)
 · repeat' (first|refine QF ?_|(refine QH ?_ ?_<;>intro hc<;>try omega)|(apply Ac;(iterate 3 exact J)))
   rw [← hI,show k=l.length by omega,List.drop_length];rfl
theorem conFC_c (h:Ro)(A:Option Addr)(n c:Nat)(l:List Dx)(hx:Ar Ox 2 h A n l)(hn:n≤9223372036854775807)(f:FuncId)(fs cs:List Value)(p:Dx→Bool)(hh:Has prog f)
  (hf:∀ x∈l,Val prog f (fs++[cardV x]++cs).toArray h (.bool (p x))) :
  Val prog 259 #[.slice A n c,.func (.func f) fs.toArray cs.toArray] h (.bool (l.any p)):=by
 refine QXV Proofs.Tryz.func259 fun w0 X0=>?_
 repeat' (first|refine QF ?_|(refine QG ?_;first|(apply Aa;exact J;exact has316;exact idxFC_c _ _ _ _ _ hx hn f fs cs p hh hf))|(apply Ac;(iterate 3 exact J)))
 rw [Wa];congr 1;rw [Bool.eq_iff_iff,decide_eq_true_eq];exact Jf _ _ _
theorem idxI7_c (h:Ro)(A:Option Addr)(n c:Nat)(l:List Int)(hx:Ar Cu 1 h A n l)(hn:n≤9223372036854775807)(v:Int) :
  Val prog 261 #[.slice A n c,.int .i64 v] h (.int .i64 (Mf (fun x=>decide (x=v)) l 0)):=by
 refine QXV Proofs.Tryz.func261 fun w0 X0=>?_
 have hlen:=hx.len
 repeat' (first|refine QF ?_|fail)
 refine Ai (X:=Nat) (fun k=>k≤n∧Mf (fun x=>decide (x=v)) (l.drop k) k=Mf (fun x=>decide (x=v)) l 0) (fun k=>n-k) (fun k=>[(8,.int .i64 k),(7,.int .i64 n),(0,.slice A n c),(1,.int .i64 v)]) (fun _=>[]) (fun _=>h) 0 ⟨by omega,rfl⟩ QS QT rfl ?_
 rintro k ⟨hk,hI⟩ ih
 by_cases hkn:k<n
 · have a1:=hx.addrD hkn
   have c1:=hx.cellsD 0 hkn
   have hd:=Bta 0 hlen hkn
   generalize l.getD k 0=x at *
   repeat' (first|refine QF ?_|(apply Af;exact J;exact J;(first|exact QAc|exact QAf);exact QA)|(refine QH ?_ ?_<;>intro hc<;>try omega)|(apply Ac;(iterate 3 exact J)))
   all_goals first
    | (rw [← hI,hd,Mf,if_pos QFh];done)
    | (have h3:=ih (k+1) ⟨by omega,by rw [← hI,hd,Mf,if_neg QFh]⟩ QAd
       refine Aj QS QT (h3))
 · repeat' (first|refine QF ?_|(refine QH ?_ ?_<;>intro hc<;>try omega)|(apply Ac;(iterate 3 exact J)))
   rw [← hI,show k=l.length by omega,List.drop_length];rfl
theorem con7_c (h:Ro)(A:Option Addr)(n c:Nat)(l:List Int)(hx:Ar Cu 1 h A n l)(hn:n≤9223372036854775807)(v:Int) :
  Val prog 214 #[.slice A n c,.int .i64 v] h (.bool (decide (v∈l))):=by
 refine QXV Proofs.Tryz.func214 fun w0 X0=>?_
 repeat' (first|refine QF ?_|(refine QG ?_;first|(apply Aa;exact J;exact has261;exact idxI7_c _ _ _ _ _ hx hn _))|(apply Ac;(iterate 3 exact J)))
 rw [Wa];congr 1;rw [decide_eq_decide,Jf,List.any_eq_true]
 constructor
 · rintro ⟨x,hx,h2⟩;simp at h2;subst h2;exact hx
 · intro hh;exact ⟨v,hh,by simp⟩
theorem Ny (h:Ro)(A:Option Addr)(n c:Nat)(l:List Int)(hx:Ar Cu 1 h A n l)(hn:n≤9223372036854775807)(B:Option Addr)(m d:Nat)(r:List Int)(hy:Ar Cu 1 h B m r)(hm:m≤9223372036854775807) :
  Val prog 129 #[.slice A n c,.slice B m d] h (.bool (decide (l=r))):=by
 refine QXV Proofs.Tryz.func129 fun w0 X0=>?_
 have hlen:=hx.len
 have hlen2:=hy.len
 by_cases hnm:n=m
 · subst hnm
   repeat' (first|refine QF ?_|(refine QH ?_ ?_<;>intro hc<;>try omega)|fail)
   · refine Ai (X:=Nat) (fun k=>k≤n∧l.take k=r.take k) (fun k=>n-k) (fun k=>[(13,.int .i64 k),(12,.int .i64 n),(0,.slice A n c),(1,.slice B n d)]) (fun _=>[]) (fun _=>h) 0 ⟨by omega,rfl⟩ QS QT rfl ?_
     rintro k ⟨hk,hI⟩ ih
     by_cases hkn:k<n
     · have a1:=hx.addrD hkn
       have c1:=hx.cellsD 0 hkn
       have a2:=hy.addrD hkn
       have c2:=hy.cellsD 0 hkn
       have ht1:=Cb 0 hlen hkn
       have ht2:=Cb 0 hlen2 hkn
       have hne:l.getD k 0≠r.getD k 0→l≠r:=fun h1 h2=>h1 (by rw [h2])
       generalize l.getD k 0=u at *
       generalize r.getD k 0=v at *
       repeat' (first|refine QF ?_|(apply Ad (n:=6) [0,1,2,3,4,5,6,7,8] [(0,0),(1,0),(2,0),(3,0),(4,0),(5,0),(6,0),(7,0),(8,0)];kernel_rfl)|(apply Bk;exact J;kernel_rfl;exact J;exact J;(first|exact QAc|exact QBa|exact QAf|exact QA2);exact QA)|(refine QH ?_ ?_<;>intro hc<;>try omega)|fail)
       · (first|(apply Ac;(iterate 3 exact J)))
         rw [decide_eq_false (hne QAd)]
       · have h3:=ih (k+1) ⟨by omega,by have e5:u=v:=QAd;rw [ht1,ht2,hI,e5]⟩ QAd
         refine Aj QS QT (h3)
     · repeat' (first|refine QF ?_|(refine QH ?_ ?_<;>intro hc<;>try omega)|(apply Ac;(iterate 3 exact J)))
       rw [List.take_of_length_le QAd,List.take_of_length_le QAd] at hI
       rw [decide_eq_true hI]
 · repeat' (first|refine QF ?_|(refine QH ?_ ?_<;>intro hc<;>try omega)|(apply Ac;(iterate 3 exact J)))
   rw [decide_eq_false];intro hh;subst hh;omega
theorem Us (h:Ro)(A:Option Addr)(n c:Nat)(l:List Dx)(hx:Ar Ox 2 h A n l)(hn:n≤9223372036854775807)(B:Option Addr)(m d:Nat)(r:List Dx)(hy:Ar Ox 2 h B m r)(hm:m≤9223372036854775807) :
  Val prog 130 #[.slice A n c,.slice B m d] h (.bool (decide (l=r))):=by
 refine QXV Proofs.Tryz.func130 fun w0 X0=>?_
 have hlen:=hx.len
 have hlen2:=hy.len
 by_cases hnm:n=m
 · subst hnm
   repeat' (first|refine QF ?_|(refine QH ?_ ?_<;>intro hc<;>try omega)|fail)
   · refine Ai (X:=Nat) (fun k=>k≤n∧l.take k=r.take k) (fun k=>n-k) (fun k=>[(13,.int .i64 k),(12,.int .i64 n),(0,.slice A n c),(1,.slice B n d)]) (fun _=>[]) (fun _=>h) 0 ⟨by omega,rfl⟩ QS QT rfl ?_
     rintro k ⟨hk,hI⟩ ih
     by_cases hkn:k<n
     · have a1:=hx.addrD hkn
       have c1:=hx.cellsD Dg hkn
       have a2:=hy.addrD hkn
       have c2:=hy.cellsD Dg hkn
       have ht1:=Cb Dg hlen hkn
       have ht2:=Cb Dg hlen2 hkn
       have hne:l.getD k Dg≠r.getD k Dg→l≠r:=fun h1 h2=>h1 (by rw [h2])
       generalize l.getD k Dg=u at *
       generalize r.getD k Dg=v at *
       obtain ⟨up,ur⟩:=u
       obtain ⟨vp,vr⟩:=v
       repeat' (first|refine QF ?_|(apply Ad (n:=6) [0,1,2,3,4,5,6,7,8] [(0,0),(1,0),(2,0),(3,0),(4,0),(5,0),(6,0),(7,0),(8,0)];kernel_rfl)|(apply Bk;exact J;kernel_rfl;exact J;exact J;(first|exact QAc|exact QBa|exact QAf|exact QA2|exact QFc);exact QA)|(refine QH ?_ ?_<;>intro hc<;>try omega)|fail)
       · (first|(apply Ac;(iterate 3 exact J)))
         rw [decide_eq_false (hne QDc)]
       · have h3:=ih (k+1) ⟨by omega,by
          simp [Fe] at hc
          rw [ht1,ht2,hI,hc.1,hc.2]⟩ QAd
         refine Aj QS QT (h3)
     · repeat' (first|refine QF ?_|(refine QH ?_ ?_<;>intro hc<;>try omega)|(apply Ac;(iterate 3 exact J)))
       rw [List.take_of_length_le QAd,List.take_of_length_le QAd] at hI
       rw [decide_eq_true hI]
 · repeat' (first|refine QF ?_|(refine QH ?_ ?_<;>intro hc<;>try omega)|(apply Ac;(iterate 3 exact J)))
   rw [decide_eq_false];intro hh;subst hh;omega
end Go.Hw
set_option maxHeartbeats 4000000
namespace Go.Hw
open Go
attribute [local irreducible] GO GOl GDp Val Fn Res Ab Du Blk Bd Cd Bf Has
open Go.Proofs.Tryz (prog)
theorem all1_c (h:Ro)(b:Nat)(g:FuncId)(p:Int→Bool)(hg:Has prog g)(hv:∀ h x,Val prog g #[.int .i64 x] h (.bool (p x)))(hc:Ab h ⟨b,0,none⟩ [.func (.func g) #[] #[]])(x:Int) :
  Val prog 258 #[.int .i64 x,.pointer (some ⟨b,0,none⟩)] h (.bool (!p x)):=by
 refine QXV Proofs.Tryz.func258 fun w0 X0=>?_
 repeat' (first|refine QF ?_|(apply Af;exact J;exact J;(first|exact QAb);exact QA)|(refine QG ?_;first|(apply Cr (f:=g) (fs:=[]) (cs:=[]);exact J;exact J;exact hg;exact hv _ _))|(apply Ac;(iterate 3 exact J)))
 all_goals rfl
theorem all7_c (h:Ro)(A:Option Addr)(n c:Nat)(xs:List Int)(hx:Ar Cu 1 h A n xs)(hn:n≤9223372036854775807)(lo hi:Int)(g:FuncId)(p:Int→Bool)(hg:Has prog g)(hv:∀ h x,Val prog g #[.int .i64 x] h (.bool (p x))) :
  Val prog 207 #[.slice A n c,.int .i64 lo,.int .i64 hi,.func (.func g) #[] #[]] h (.bool (decide (lo≤(xs.length:Int)∧(xs.length:Int)≤hi∧∀ x∈xs,p x=true))):=by
 refine QXV Proofs.Tryz.func207 fun w0 X0=>?_
 have hlen:=hx.len
 repeat' (first|refine QF ?_|(refine QB ?_;intro b)|(refine QG ?_;first|(refine Bv QK ?_;intro h1 hle1 hc1;apply Aa;exact J;exact has71;exact G5a h1 _ _ _ xs (hx.le hle1) hn 258 [] [.pointer (some ⟨_,0,none⟩)] (fun x => !p x) has258 (fun x _=>all1_c h1 _ g p hg hv hc1 x)))|refine QJ ?_|(refine QI ?_ ?_<;>intro hc<;>try omega)|(apply Ac;(iterate 3 exact J)))
 all_goals (subst hlen;simp only [Value.bool.injEq])
 · rw [Bool.eq_iff_iff];simp only [Bool.not_eq_true',List.any_eq_false,decide_eq_true_eq,Bool.not_eq_true,Bool.not_eq_false']
   constructor
   · intro h2;exact ⟨by omega,by omega,fun x hx=>by simpa using h2 x hx⟩
   · intro h2 x hx;simpa using h2.2.2 x hx
 all_goals (symm;rw [decide_eq_false_iff_not];rintro ⟨h1,h2,_⟩;omega)
theorem cards1_c (h:Ro)(b:Nat)(A:Option Addr)(n c:Nat)(sq:List Int)(hx:Ar Cu 1 h A n sq)(hn:n≤9223372036854775807)(hc:Ab h ⟨b,0,none⟩ [.slice A n c])(x:Dx) :
  Val prog 260 #[cardV x,.pointer (some ⟨b,0,none⟩)] h (.bool (!decide (x.p∈sq))):=by
 refine QXV Proofs.Tryz.func260 fun w0 X0=>?_
 repeat' (first|refine QF ?_|(apply Af;exact J;exact J;(first|exact QAb);exact QA)|(refine QB ?_;intro b)|(refine QG ?_;first|(apply Aa;exact J;exact has214;exact con7_c _ _ _ _ _ hx hn _))|(apply Ac;(iterate 3 exact J)))
 all_goals rfl
open Classical in
theorem Jsa (h:Ro)(A:Option Addr)(n c:Nat)(l:List Dx)(hx:Ar Ox 2 h A n l)(hn:n≤9223372036854775807)(B:Option Addr)(m d:Nat)(sq:List Int)(hy:Ar Cu 1 h B m sq)(hm:m≤9223372036854775807) :
  Val prog 212 #[.slice A n c,.slice B m d] h (.bool (decide (Tg l sq))):=by
 refine QXV Proofs.Tryz.func212 fun w0 X0=>?_
 have hlen:=hx.len
 repeat' (first|refine QF ?_|(refine QB ?_;intro b)|(refine QG ?_;first|(refine Bv QK ?_;intro h1 hle1 hc1;apply Aa;exact J;exact has259;exact conFC_c h1 _ _ _ l (hx.le hle1) hn 260 [] [.pointer (some ⟨_,0,none⟩)] (fun x => !decide (x.p∈sq)) has260 (fun x _=>cards1_c h1 _ _ _ _ sq (hy.le hle1) hm hc1 x)))|refine QJ ?_|(refine QI ?_ ?_<;>intro hc<;>try omega)|(apply Ac;(iterate 3 exact J)))
 all_goals (subst hlen;simp only [Value.bool.injEq])
 · refine Qz ?_
   simp only [Bool.not_eq_true',List.any_eq_false,Bool.not_eq_true,Bool.not_eq_false',decide_eq_true_eq]
   exact ⟨fun h2=>⟨by omega,fun x hx=>by simpa using h2 x hx⟩,fun h2 x hx=>by simpa using h2.2 x hx⟩
 all_goals (symm;rw [decide_eq_false_iff_not];rintro ⟨h1,_⟩;omega)
def Uj (c:UInt8):Prop:=(97≤c.toNat∧c.toNat≤122)∨(48≤c.toNat∧c.toNat≤57)∨c.toNat=95
theorem Fr (s:List UInt8):Pa s↔1≤s.length∧s.length≤24∧(97≤(s.getD 0 0).toNat∧(s.getD 0 0).toNat≤122)∧∀ c∈s,Uj c:=by
 unfold Pa Uj
 cases s with
 | nil=>simp
 | cons a r=>simp
open Classical in
theorem name7_c (h:Ro)(s:List UInt8)(hs:s.length≤9223372036854775807):Val prog 209 #[.string (str s)] h (.bool (decide (Pa s))):=by
 refine QXV Proofs.Tryz.func209 fun w0 X0=>?_
 have hz:=Nn s
 by_cases h0:s.length=0
 · repeat' (first|refine QF ?_|(refine QH ?_ ?_<;>intro hc<;>try omega)|refine QJ ?_|(refine QI ?_ ?_<;>intro hc<;>try omega)|fail)
   all_goals (try (exfalso;rw [hz] at *;omega))
   (first|(apply Ac;(iterate 3 exact J)))
   rw [decide_eq_false];rw [Fr];intro hh;omega
 by_cases h1:24<s.length
 · repeat' (first|refine QF ?_|(refine QH ?_ ?_<;>intro hc<;>try omega)|refine QJ ?_|(refine QI ?_ ?_<;>intro hc<;>try omega)|fail)
   all_goals (try (exfalso;rw [hz] at *;omega))
   (first|(apply Ac;(iterate 3 exact J)))
   rw [decide_eq_false];rw [Fr];intro hh;omega
 repeat' (first|refine QF ?_|(apply Af;exact J;exact J;(first|(apply Xh (s:=s) (j:=0);(iterate 5 exact J);omega));exact QA)|(refine QH ?_ ?_<;>intro hc<;>try omega)|refine QJ ?_|(refine QI ?_ ?_<;>intro hc<;>try omega)|fail)
 · (first|(apply Ac;(iterate 3 exact J)))
   rw [decide_eq_false];rw [Fr];intro hh;omega
 · (first|(apply Ac;(iterate 3 exact J)))
   rw [decide_eq_false];rw [Fr];intro hh;omega
 · have hw:=Fr s
   repeat' (first|refine QF ?_|(refine QG ?_;first|(apply Xg;(iterate 6 exact J);omega;intro A1 c1 h1 hle1 hs1))|fail)
   refine Ai (X:=Nat) (fun k=>k≤s.length∧∀ c∈s.take k,Uj c) (fun k=>s.length-k) (fun k=>[(26,.int .i64 k),(25,.int .i64 s.length),(24,.slice A1 s.length c1)]) (fun _=>[]) (fun _=>h1) 0 ⟨by omega,by simp⟩ QS QT rfl ?_
   rintro k ⟨hk,hI⟩ ih
   by_cases hkn:k<s.length
   · have a1:=hs1.addrD hkn
     have cc:=hs1.cellsD 0 hkn
     have ht:=Cb 0 rfl hkn
     have hm:=mem7 0 hkn
     generalize s.getD k 0=u at *
     have hno:¬ Uj u→¬ Pa s:=fun h3 h4=>h3 ((hw.1 h4).2.2.2 u hm)
     have hyes:Uj u→∀ c∈s.take (k+1),Uj c:=fun h3 c h4=>by
      rw [ht,List.mem_append,List.mem_singleton] at h4
      rcases h4 with h4|h4
      · exact hI c h4
      · rw [h4];exact h3
     unfold Uj at hno hyes
     repeat' (first|refine QF ?_|(apply Af;exact J;exact J;(first|exact QAc|exact QAo);exact QA)|(refine QH ?_ ?_<;>intro hc<;>try omega)|refine QJ ?_|(refine QI ?_ ?_<;>intro hc<;>try omega)|fail)
     all_goals first
      | ((first|(apply Ac;(iterate 3 exact J)));rw [decide_eq_false];apply hno;omega)
      | (have h3:=ih (k+1) ⟨by omega,hyes QAd⟩ QAd
         refine Aj QS QT (h3))
   · repeat' (first|refine QF ?_|(refine QH ?_ ?_<;>intro hc<;>try omega)|(apply Ac;(iterate 3 exact J)))
     rw [List.take_of_length_le QAd] at hI
     rw [decide_eq_true];exact hw.2 ⟨by omega,by omega,⟨by omega,by omega⟩,hI⟩
open Classical in
theorem Ica (h:Ro)(A:Option Addr)(n c:Nat)(xs:List Int)(hx:Ar Cu 1 h A n xs)(hn:n≤9223372036854775807) :
  Val prog 210 #[.slice A n c] h (.bool (decide (Lw xs))):=by
 refine QXV Proofs.Tryz.func210 fun w0 X0=>?_
 repeat' (first|refine QF ?_|(refine QG ?_;first|(apply Aa;exact J;exact has207;exact all7_c _ _ _ _ xs hx hn 0 40 162 (fun x=>decide (Bel x 8192)) has162 (fun h x=>Vq h x))|(apply Aa;exact J;exact has208;exact incr7_c _ _ _ _ xs hx hn))|refine QJ ?_|(refine QI ?_ ?_<;>intro hc<;>try omega)|(apply Ac;(iterate 3 exact J)))
 all_goals (refine Bg ?_;unfold Lw;(try simp only [decide_eq_true_eq] at *);grind)
theorem sheet2_c (h:Ro)(b:Nat)(s:Fsh)(x:Ce)(hx:Ar Cu 1 h s.as.A s.as.n x.as)(hn:s.as.n≤9223372036854775807)(hc:Ab h ⟨b,0,none⟩ (Mn s x))(p:Int) :
  Val prog 213 #[.int .i64 p,.pointer (some ⟨b,0,none⟩)] h (.bool (decide (p∈x.as))):=by
 refine QXV Proofs.Tryz.func213 fun w0 X0=>?_
 repeat' (first|refine QF ?_|(apply Af;exact J;exact J;(first|exact QAb);exact QA)|(refine QG ?_;first|(apply Aa;exact J;exact has214;exact con7_c _ _ _ _ _ hx hn _))|(apply Ac;(iterate 3 exact J)))
 all_goals rfl
theorem Kj.small {h:Ro}{s:Fsh}{x:Ce}(a:Kj h s x)(b:Tu x):s.hs.n≤9223372036854775807∧s.as.n≤9223372036854775807∧s.hc.n≤9223372036854775807∧s.ac.n≤9223372036854775807:=by
 have h1:=a.hs.len;have h2:=a.as.len;have h3:=a.hc.len;have h4:=a.ac.len
 obtain ⟨b1,b2,b3,b4⟩:=b
 omega
theorem anyE {l r:List Int}:(!(l.any fun p=>decide (p∈r)))=true↔∀ p∈l,p ∉ r:=by
 simp
open Classical in
theorem sheet7_c (h:Ro)(s:Fsh)(x:Ce)(hx:Kj h s x)(hs:Tu x):Val prog 154 #[Kq s x] h (.bool (decide (Dv x))):=by
 refine QXV Proofs.Tryz.func154 fun w0 X0=>?_
 obtain ⟨n1,n2,n3,n4⟩:=hx.small hs
 repeat' (first|refine QF ?_|(refine QB ?_;intro b)|(refine QG ?_;first|(apply Cr (f:=210) (fs:=[]) (cs:=[]);exact J;exact J;exact has210;first|exact Ica _ _ _ _ x.hs (hx.hs.le QAa) QAd|exact Ica _ _ _ _ x.as (hx.as.le QAa) QAd)|(apply Aa;exact J;exact has212;first|exact Jsa _ _ _ _ x.hc (hx.hc.le QAa) QAd _ _ _ x.hs (hx.hs.le QAa) QAd|exact Jsa _ _ _ _ x.ac (hx.ac.le QAa) QAd _ _ _ x.as (hx.as.le QAa) QAd)|(refine Bv QK ?_;intro h1 hle1 hc1;apply Aa;exact J;exact has71;exact G5a h1 _ _ _ x.hs (hx.hs.le hle1) QAd 213 [] [.pointer (some ⟨_,0,none⟩)] (fun p=>decide (p∈x.as)) has213 (fun p _=>sheet2_c h1 _ s x (hx.as.le hle1) QAd hc1 p))|(apply Aa;exact J;exact has26;exact Wm _ _)|(refine QBz ?_)|(apply Aa;exact J;exact has211;exact Jea _ _))|refine QJ ?_|(refine QI ?_ ?_<;>intro hc<;>try omega)|fail)
 all_goals (first|(apply Ac;(iterate 3 exact J)))
 all_goals (clear hx hs n1 n2 n3 n4;refine Bg ?_;try rw [anyE])
 all_goals (unfold Dv;grind)
theorem all192 (xs:List Int)(lo hi:Int):(decide (lo≤(xs.length:Int)∧(xs.length:Int)≤hi∧∀ x∈xs,(fun x=>decide (Bel x 192)) x=true))=decide (lo≤(xs.length:Int)∧(xs.length:Int)≤hi∧∀ x∈xs,Bel x 192):=by
 rw [decide_eq_decide];simp
open Classical in
theorem Gza (h:Ro)(s:Fsh)(x:Fct)(hx:Ar Cu 1 h s.cl.A s.cl.n x.eClubs)(hn:s.cl.n≤9223372036854775807)(hr:x.eRules.length≤9223372036854775807):Val prog 149 #[Ug s x] h (.bool (decide (Mda x))):=by
 refine QXV Proofs.Tryz.func149 fun w0 X0=>?_
 have hlen:=hx.len
 repeat' (first|refine QF ?_|(refine QB ?_;intro b)|(refine QG ?_;first|(apply Aa;exact J;exact has207;exact all192 _ _ _ ▸ all7_c _ _ _ _ x.eClubs hx hn 2 24 60 (fun x=>decide (Bel x 192)) has60 (fun h x=>G9a h x))|(apply Aa;exact J;exact has208;exact incr7_c _ _ _ _ x.eClubs hx hn)|(apply Aa;exact J;exact has209;exact name7_c _ x.eRules hr)|(refine QEj ?_))|refine QJ ?_|(refine QI ?_ ?_<;>intro hc<;>try omega)|fail)
 all_goals (first|(apply Ac;(iterate 3 exact J)))
 all_goals (clear hx hn hr;refine Bg ?_)
 all_goals (try rw [Dr,show (⟨#[]⟩:ByteArray).toList=[] from Dr [],beq_iff_eq])
 all_goals (unfold Mda;grind)
theorem K7:Uk prog 3 (fun i:Int=>.int .i64 i):=by
 obtain ⟨D,h1,h2⟩:=ts_ok.und (show By 3 _=some _ from rfl)
 exact Uk.int (by rw [h1,Gf h2])
def met (l:List Int):List (Int×Bool):=l.foldl (fun m x=>Im x true m) []
theorem Iwa (l:List Int)(x:Int):met (l++[x])=Im x true (met l):=by
 simp [met,List.foldl_append]
theorem Bda {x:Int}:∀ (m:List (Int×Bool)),(Im x true m).length=if x∈m.map (·.1) then m.length else m.length+1
 | []=>by simp [Im]
 | (y,b)::r=>by
   have ih:=Bda (x:=x) r
   by_cases h:y=x
   · subst h;simp [Im]
   · simp only [Im,if_neg h,List.length_cons,ih,List.map_cons,List.mem_cons,show ¬ x=y from fun e=>h e.symm,false_or]
     split <;> rfl
theorem D8a {x:Int}:∀ (m:List (Int×Bool)) (z:Int),z∈(Im x true m).map (·.1)↔z=x∨z∈m.map (·.1)
 | [],z=>by simp [Im]
 | (y,b)::r,z=>by
   have ih:=D8a (x:=x) r z
   by_cases h:y=x
   · subst h
     simp [Im]
   · simp only [Im,if_neg h,List.map_cons,List.mem_cons,ih]
     constructor
     · rintro (h1|h1|h1)
       · exact .inr (.inl h1)
       · exact .inl h1
       · exact .inr (.inr h1)
     · rintro (h1|h1|h1)
       · exact .inr (.inl h1)
       · exact .inl h1
       · exact .inr (.inr h1)
theorem met_spec (l:List Int):(∀ z,z∈(met l).map (·.1)↔z∈l)∧(met l).length≤l.length∧((met l).length=l.length↔l.Nodup):=by
 have key:∀ n,n≤l.length→(∀ z,z∈(met (l.take n)).map (·.1)↔z∈l.take n)∧(met (l.take n)).length≤n∧((met (l.take n)).length=n↔(l.take n).Nodup):=by
  intro n
  induction n with
  | zero=>intro _;simp [met]
  | succ n ih =>
    intro hn
    obtain ⟨h1,h2,h3⟩:=ih QAd
    have ht:=Cb 0 (xs:=l) rfl (show n<l.length by omega)
    have hl:(l.take n).length=n:=by rw [List.length_take];omega
    rw [ht,Iwa]
    generalize l.getD n 0=x at *
    refine ⟨fun z => ?_,?_,?_⟩
    · rw [D8a,h1,List.mem_append,List.mem_singleton];exact Or.comm
    · rw [Bda];split <;> omega
    · rw [Bda,List.nodup_append]
      simp only [h1]
      split
      · rename_i hx
        constructor
        · intro h;omega
        · rintro ⟨_,_,h⟩;exact absurd rfl (h x hx x QAn)
      · rename_i hx
        rw [show (met (l.take n)).length+1=n+1↔(met (l.take n)).length=n from by omega,h3]
        constructor
        · intro h
          refine ⟨h,by simp,fun a ha b hb => ?_⟩
          rw [List.mem_singleton] at hb;subst hb;intro e;subst e;exact hx ha
        · exact fun h=>h.1
 have:=key l.length (Nat.le_refl _)
 rwa [List.take_length] at this
open Classical in
theorem lot7_c (h:Ro)(s:Fsh)(x:Fct)(hx:Ar Cu 1 h s.lo.A s.lo.n x.lO)(hn:s.lo.n≤9223372036854775807):Val prog 165 #[lotV s x] h (.bool (decide (Maa x))):=by
 refine QXV Proofs.Tryz.func165 fun w0 X0=>?_
 have hlen:=hx.len
 repeat' (first|refine QF ?_|(refine QB ?_;intro b)|(refine QG ?_;first|(apply Eu (fun i:Int=>.int .i64 i) Value.bool;intro bm))|fail)
 generalize b=b0
 refine Ai (X:=Nat) (fun k=>k≤s.lo.n) (fun k=>s.lo.n-k) (fun k=>[(10,.int .i64 k),(9,.int .i64 s.lo.n),(8,.slice s.lo.A s.lo.n s.lo.c),(3,.map (some bm)),(1,.pointer (some ⟨b0,0,none⟩))])
  (fun k=>[Cd (fun i:Int=>.int .i64 i) Value.bool bm (met (x.lO.take k)),Blk b0 53 (Bz (lotV s x))]) (fun _=>h) 0 QAd QS QT rfl ?_
 rintro k hk ih
 by_cases hkn:k<s.lo.n
 · have a1:=hx.addrD hkn
   have c1:=hx.cellsD 0 hkn
   have ht:met (x.lO.take (k+1))=Im (x.lO.getD k 0) true (met (x.lO.take k)):=by rw [Cb 0 hlen hkn,Iwa]
   generalize x.lO.getD k 0=u at *
   repeat' (first|refine QF ?_|(apply Af;exact J;exact J;(first|exact QAc|exact QAf);exact QA)|(refine QG ?_;first|(apply Dp (ek:=fun i:Int=>.int .i64 i) (ev:=Value.bool) (b:=bm) (m:=met (x.lO.take k)) (key:=u) (u:=true) K7;(iterate 6 exact J);rw [← ht];exact QR))|(refine QH ?_ ?_<;>intro hc<;>try omega)|fail)
   have h3:=ih (k+1) QAd QAd
   refine Aj QS QT (h3)
 · rw [List.take_of_length_le QAd]
   clear ih
   have hm:=met_spec x.lO
   generalize met x.lO=mt at *
   repeat' (first|refine QF ?_|(apply Af;exact J;exact J;(first|(apply OV_lenMap (ek:=fun i:Int=>.int .i64 i) (ev:=Value.bool) (b:=bm) (m:=mt);(iterate 3 exact J)));exact QA)|(refine QG ?_;first|(apply Aa;exact J;exact has207;exact all192 _ _ _ ▸ all7_c _ _ _ _ x.lO hx hn 2 24 60 (fun x=>decide (Bel x 192)) has60 (fun h x=>G9a h x))|(refine QEj ?_))|(refine QH ?_ ?_<;>intro hc<;>try omega)|refine QJ ?_|(refine QI ?_ ?_<;>intro hc<;>try omega)|fail)
   all_goals (first|(apply Ac;(iterate 3 exact J)))
   all_goals (refine Bg ?_;unfold Maa;try rw [Ib])
   all_goals (clear hx;grind)
end Go.Hw
namespace Go.Hw
open Go
attribute [local irreducible] GO GOl GDp Val Fn Res Ab Du Blk Bd Cd Bf Has
open Go.Proofs.Tryz (prog)
def fixC (g:Ak) (v:Int):List Value:=[.int .i64 g.s,.int .i64 g.c,.int .i64 g.h,.int .i64 g.a,.int .i64 v]
def appC (x:Fct):List Value:=[.int .i64 x.aCase,.int .i64 x.aInst,.bool x.aSusp]
def movC (x:Fct):List Value:=[.int .i64 x.mP,.int .i64 x.mTo]
theorem Bla {a b:Ak}:a=b↔a.s=b.s∧a.c=b.c∧a.h=b.h∧a.a=b.a:=by
 cases a;cases b;simp
theorem rul_ext {a b:Fk}:a=b↔a.case=b.case∧a.inst=b.inst∧a.kind=b.kind∧a.g=b.g∧a.club=b.club∧a.player=b.player∧a.season=b.season∧a.comp=b.comp∧a.points=b.points∧a.amount=b.amount∧a.hg=b.hg∧a.ag=b.ag∧a.lo=b.lo∧a.hi=b.hi:=by
 cases a;cases b;simp
theorem C6a {a b:Ce}:a=b↔a.g=b.g∧a.ref=b.ref∧a.hg=b.hg∧a.ag=b.ag∧a.hp=b.hp∧a.ap=b.ap∧a.hs=b.hs∧a.as=b.as∧a.hc=b.hc∧a.ac=b.ac:=by
 cases a;cases b;simp
theorem fct_ext {a b:Fct}:a=b↔a.kind=b.kind∧a.day=b.day∧a.known=b.known∧(a.fg=b.fg∧a.venue=b.venue)∧a.ru=b.ru∧(a.aCase=b.aCase∧a.aInst=b.aInst∧a.aSusp=b.aSusp)∧(a.mP=b.mP∧a.mTo=b.mTo)∧a.void=b.void ∧
  a.eS=b.eS∧a.eC=b.eC∧a.eRules=b.eRules∧a.eClubs=b.eClubs∧a.lS=b.lS∧a.lC=b.lC∧a.lO=b.lO∧a.sh=b.sh:=by
 cases a;cases b;simp;grind
theorem Lr (a b:Ak):eqD ts 10 24 (.agg (Cx a).toArray) (.agg (Cx b).toArray)=some (decide (a=b)):=by
 have e:eqD ts 10 24 (.agg (Cx a).toArray) (.agg (Cx b).toArray)=some (eqI a.s b.s && (eqI a.c b.c && (eqI a.h b.h && (eqI a.a b.a && true)))):=rfl
 rw [e];congr 1;refine Qz ?_;rw [Bla];simp only [Bool.and_eq_true,Ib,and_true]
theorem fix_eq (a b:Ak)(u v:Int):eqD ts 10 44 (.agg (fixC a u).toArray) (.agg (fixC b v).toArray)=some (decide (a=b∧u=v)):=by
 have e:eqD ts 10 44 (.agg (fixC a u).toArray) (.agg (fixC b v).toArray)=some ((eqI a.s b.s && (eqI a.c b.c && (eqI a.h b.h && (eqI a.a b.a && true)))) && (eqI u v && true)):=rfl
 rw [e];congr 1;refine Qz ?_;rw [Bla];simp only [Bool.and_eq_true,Ib,and_true]
theorem Mp (a b:Fk):eqD ts 10 39 (.agg (Iy a).toArray) (.agg (Iy b).toArray)=some (decide (a=b)):=by
 have e:eqD ts 10 39 (.agg (Iy a).toArray) (.agg (Iy b).toArray)=some (eqI a.case b.case && (eqI a.inst b.inst && (eqI a.kind b.kind && ((eqI a.g.s b.g.s && (eqI a.g.c b.g.c && (eqI a.g.h b.g.h && (eqI a.g.a b.g.a && true)))) && (eqI a.club b.club && (eqI a.player b.player &&
  (eqI a.season b.season && (eqI a.comp b.comp && (eqI a.points b.points && (eqI a.amount b.amount && (eqI a.hg b.hg && (eqI a.ag b.ag && ((eqI a.lo b.lo && (eqI a.hi b.hi && true)) && true))))))))))))):=rfl
 rw [e];congr 1;refine Qz ?_;rw [rul_ext,Bla];simp only [Bool.and_eq_true,Ib,and_true]
theorem app_eq (a b:Fct):eqD ts 10 49 (.agg (appC a).toArray) (.agg (appC b).toArray)=some (decide (a.aCase=b.aCase∧a.aInst=b.aInst∧a.aSusp=b.aSusp)):=by
 have e:eqD ts 10 49 (.agg (appC a).toArray) (.agg (appC b).toArray)=some (eqI a.aCase b.aCase && (eqI a.aInst b.aInst && ((a.aSusp == b.aSusp) && true))):=rfl
 rw [e];congr 1;refine Qz ?_;simp only [Bool.and_eq_true,Ib,and_true,beq_iff_eq]
theorem mov_eq (a b:Fct):eqD ts 10 51 (.agg (movC a).toArray) (.agg (movC b).toArray)=some (decide (a.mP=b.mP∧a.mTo=b.mTo)):=by
 have e:eqD ts 10 51 (.agg (movC a).toArray) (.agg (movC b).toArray)=some (eqI a.mP b.mP && (eqI a.mTo b.mTo && true)):=rfl
 rw [e];congr 1;refine Qz ?_;simp only [Bool.and_eq_true,Ib,and_true]
def eqBy (a b:List UInt8):List Nat→Bool
 | []=>true
 | i::r=>eqI ((a.getD i 0).toNat:Int) ((b.getD i 0).toNat:Int) && eqBy a b r
theorem Jha (a b:List UInt8):∀ l,eqBy a b l=true↔∀ i∈l,a.getD i 0=b.getD i 0
 | []=>by simp [eqBy]
 | i::r=>by
   rw [eqBy,Bool.and_eq_true,Ib,Jha a b r,List.forall_mem_cons]
   refine and_congr ⟨fun h => ?_,fun h=>by rw [h]⟩ Iff.rfl
   exact UInt8.toNat_inj.1 QAd
theorem void_eq (a b:List UInt8)(ha:a.length=32)(hb:b.length=32):eqV ts 10 55 (.agg (Cta a).toArray) (.agg (Cta b).toArray)=some (decide (a=b)):=by
 have e:eqV ts 10 55 (.agg (Cta a).toArray) (.agg (Cta b).toArray)=some (eqBy a b (List.range 32)):=rfl
 rw [e];congr 1;refine Qz ?_
 rw [Jha]
 constructor
 · intro h
   refine List.ext_getElem QAd fun i h1 h2 => ?_
   have:=h i (by rw [List.mem_range];omega)
   simpa [List.getD,List.getElem?_eq_getElem h1,List.getElem?_eq_getElem h2] using this
 · rintro rfl i _;rfl
theorem FAt.small {h:Ro}{s:Fsh}{x:Fct}(a:FAt h s x)(b:FSm x):s.hs.n≤9223372036854775807∧s.as.n≤9223372036854775807∧s.hc.n≤9223372036854775807∧s.ac.n≤9223372036854775807∧s.cl.n≤9223372036854775807∧s.lo.n≤9223372036854775807:=by
 have h1:=a.sh.hs.len;have h2:=a.sh.as.len;have h3:=a.sh.hc.len;have h4:=a.sh.ac.len;have h5:=a.cl.len;have h6:=a.lo.len
 obtain ⟨⟨b1,b2,b3,b4⟩,b5,b6,b7⟩:=b
 omega
theorem same7_c (h:Ro)(s:Fsh)(x:Fct)(hx:FAt h s x)(hxs:FSm x)(t:Fsh)(y:Fct)(hy:FAt h t y)(hys:FSm y):Val prog 101 #[Br s x,Br t y] h (.bool (decide (x=y))):=by
 refine QXV Proofs.Tryz.func101 fun w0 X0=>?_
 obtain ⟨n1,n2,n3,n4,n5,n6⟩:=hx.small hxs
 obtain ⟨m1,m2,m3,m4,m5,m6⟩:=hy.small hys
 repeat' (first|refine QFs ?_|(apply Af;exact J;exact J;(first|(apply Hq;exact J;exact J;(first|exact Lr _ _|exact fix_eq _ _ _ _|exact Mp _ _|exact app_eq x y|exact mov_eq x y);kernel_rfl;kernel_rfl)|(apply OV_eqlV;exact J;exact J;exact void_eq x.void y.void hx.void hy.void;kernel_rfl;kernel_rfl));exact QA)|(refine QB ?_;intro b)|(refine QG ?_;first|(apply Aa;exact J;exact has129;first|exact Ny _ _ _ _ x.eClubs (hx.cl.le QAa) QAd _ _ _ y.eClubs (hy.cl.le QAa) QAd|exact Ny _ _ _ _ x.lO (hx.lo.le QAa) QAd _ _ _ y.lO (hy.lo.le QAa) QAd|exact Ny _ _ _ _ x.sh.hs (hx.sh.hs.le QAa) QAd _ _ _ y.sh.hs (hy.sh.hs.le QAa) QAd|exact Ny _ _ _ _ x.sh.as (hx.sh.as.le QAa) QAd _ _ _ y.sh.as (hy.sh.as.le QAa) QAd)|(apply Aa;exact J;exact has130;first|exact Us _ _ _ _ x.sh.hc (hx.sh.hc.le QAa) QAd _ _ _ y.sh.hc (hy.sh.hc.le QAa) QAd|exact Us _ _ _ _ x.sh.ac (hx.sh.ac.le QAa) QAd _ _ _ y.sh.ac (hy.sh.ac.le QAa) QAd))|(apply Ad (n:=1) [0,1,4,5,6,2,3,7] [(0,0),(1,0),(2,0),(3,0),(4,2),(3,5),(5,1),(6,1),(7,1),(4,1),(6,1),(7,1)];kernel_rfl)|(apply Hi;kernel_rfl;exact J;exact J)|refine QJ ?_|(refine QI ?_ ?_<;>intro hc<;>try omega)|fail)
 all_goals (first|(apply Ac;(iterate 3 exact J)))
 all_goals (clear hx hxs hy hys;refine Bg ?_;(try simp only [Dr,beq_iff_eq] at *))
 all_goals (rw [fct_ext,C6a];grind)
end Go.Hw
namespace Go.Hw
open Go
attribute [local irreducible] GO GOl GDp Val Fn Res Ab Du Blk Bd Cd Bf Has
open Go.Proofs.Tryz (prog)
instance (a b:Int):Decidable (Ij a b):=by unfold Ij;infer_instance
theorem okI {p:Prop}[Decidable p]{e:Int}(he:e≠0):eqI (if p then 0 else e) 0=decide p:=by
 rw [Fe,decide_eq_decide];split <;> simp_all
def ivlC (a b:Int):List Value:=[.int .i64 a,.int .i64 b]
theorem valid7_c (h:Ro)(n:Int):Val prog 317 #[.int .i64 n] h (.bool (decide (0≤n∧n≤1048576))):=by
 refine QXV Proofs.Tryz.func317 fun w0 X0=>?_
 repeat' (first|refine QF ?_|refine QJ ?_|(refine QI ?_ ?_<;>intro hc<;>try omega)|(apply Ac;(iterate 3 exact J)))
 all_goals (refine Bg ?_;(try rw [Me]);grind)
theorem cal7_c (h:Ro)(a b:Int):Val prog 264 #[.agg (ivlC a b).toArray] h (.int .i64 (if Ij a b then 0 else 10)):=by
 refine QXV Proofs.Tryz.func264 fun w0 X0=>?_
 repeat' (first|refine QF ?_|(refine QB ?_;intro b)|(refine QG ?_;first|(apply Aa;exact J;exact has317;exact valid7_c _ _))|(refine QH ?_ ?_<;>intro hc<;>try omega)|refine QJ ?_|(refine QI ?_ ?_<;>intro hc<;>try omega)|(apply Ac;(iterate 3 exact J)))
 all_goals (first|(rw [if_pos (show Ij _ _ from by unfold Ij;omega)];done)|(rw [if_neg (show ¬ Ij _ _ from by unfold Ij;omega)];done))
theorem rk1_c (h:Ro)(r:Fk):Val prog 262 #[Lk r] h (.bool (decide (Dh r.g))):=by
 refine QXV Proofs.Tryz.func262 fun w0 X0=>?_
 repeat' (first|refine QF ?_|(refine QB ?_;intro b)|(refine QG ?_;first|(apply Aa;exact J;exact has26;exact Wm _ r.g))|(apply Ac;(iterate 3 exact J)))
 all_goals (rw [okI QAs])
theorem rk2_c (h:Ro)(r:Fk):Val prog 263 #[Lk r] h (.bool (decide (Ij r.lo r.hi))):=by
 refine QXV Proofs.Tryz.func263 fun w0 X0=>?_
 repeat' (first|refine QF ?_|(refine QB ?_;intro b)|(refine QG ?_;first|(apply Aa;exact J;exact has264;exact cal7_c _ r.lo r.hi))|(apply Ac;(iterate 3 exact J)))
 all_goals (rw [okI QAs])
def Hpa (h:Ro) (b:Nat):Prop:=Ab h ⟨b,0,none⟩ [.func (.func 262) #[] #[]]
def Hya (h:Ro) (b:Nat):Prop:=Ab h ⟨b,0,none⟩ [.func (.func 263) #[] #[]]
theorem rk3_c (h:Ro)(b:Nat)(hb:Hpa h b)(r:Fk):Val prog 265 #[Lk r,.pointer (some ⟨b,0,none⟩)] h (.bool (decide (Dh r.g∧(r.club=r.g.h∨r.club=r.g.a)))):=by
 refine QXV Proofs.Tryz.func265 fun w0 X0=>?_
 unfold Hpa at hb
 repeat' (first|refine QF ?_|(apply Af;exact J;exact J;(first|exact QAb);exact QA)|(refine QB ?_;intro b)|(refine QG ?_;first|(apply Cr (f:=262) (fs:=[]) (cs:=[]);exact J;exact J;exact has262;exact rk1_c _ r))|refine QJ ?_|(refine QI ?_ ?_<;>intro hc<;>try omega)|(apply Ac;(iterate 3 exact J)))
 all_goals (refine Bg ?_;(try rw [Ib]);grind)
theorem rk6_c (h:Ro)(b:Nat)(hb:Hpa h b)(r:Fk):Val prog 268 #[Lk r,.pointer (some ⟨b,0,none⟩)] h (.bool (decide (Dh r.g∧Bel r.hg 100∧Bel r.ag 100))):=by
 refine QXV Proofs.Tryz.func268 fun w0 X0=>?_
 unfold Hpa at hb
 repeat' (first|refine QF ?_|(apply Af;exact J;exact J;(first|exact QAb);exact QA)|(refine QB ?_;intro b)|(refine QG ?_;first|(apply Cr (f:=262) (fs:=[]) (cs:=[]);exact J;exact J;exact has262;exact rk1_c _ r)|(apply Aa;exact J;exact has211;exact Jea _ _))|refine QJ ?_|(refine QI ?_ ?_<;>intro hc<;>try omega)|(apply Ac;(iterate 3 exact J)))
 all_goals (refine Bg ?_;grind)
theorem rk8_c (h:Ro)(r:Fk):Val prog 270 #[Lk r] h (.bool (decide (Bel r.club 192∧Bel r.season 64∧Bel r.comp 16∧1≤r.points∧r.points≤99))):=by
 refine QXV Proofs.Tryz.func270 fun w0 X0=>?_
 repeat' (first|refine QF ?_|(refine QB ?_;intro b)|(refine QG ?_;first|(refine QDp ?_)|(refine QEj ?_))|refine QJ ?_|(refine QI ?_ ?_<;>intro hc<;>try omega)|(apply Ac;(iterate 3 exact J)))
 all_goals (refine Bg ?_;(try rw [Me]);grind)
theorem rk10_c (h:Ro)(b:Nat)(hb:Hya h b)(r:Fk):Val prog 272 #[Lk r,.pointer (some ⟨b,0,none⟩)] h (.bool (decide (Bel r.club 192∧Ij r.lo r.hi))):=by
 refine QXV Proofs.Tryz.func272 fun w0 X0=>?_
 unfold Hya at hb
 repeat' (first|refine QF ?_|(apply Af;exact J;exact J;(first|exact QAb);exact QA)|(refine QB ?_;intro b)|(refine QG ?_;first|(apply Cr (f:=263) (fs:=[]) (cs:=[]);exact J;exact J;exact has263;exact rk2_c _ r)|(refine QDp ?_))|refine QJ ?_|(refine QI ?_ ?_<;>intro hc<;>try omega)|(apply Ac;(iterate 3 exact J)))
 all_goals (refine Bg ?_;grind)
theorem rk12_c (h:Ro)(b:Nat)(hb:Hya h b)(r:Fk):Val prog 274 #[Lk r,.pointer (some ⟨b,0,none⟩)] h (.bool (decide (Bel r.player 8192∧Ij r.lo r.hi))):=by
 refine QXV Proofs.Tryz.func274 fun w0 X0=>?_
 unfold Hya at hb
 repeat' (first|refine QF ?_|(apply Af;exact J;exact J;(first|exact QAb);exact QA)|(refine QB ?_;intro b)|(refine QG ?_;first|(apply Cr (f:=263) (fs:=[]) (cs:=[]);exact J;exact J;exact has263;exact rk2_c _ r)|(apply Aa;exact J;exact has162;exact Vq _ _))|refine QJ ?_|(refine QI ?_ ?_<;>intro hc<;>try omega)|(apply Ac;(iterate 3 exact J)))
 all_goals (refine Bg ?_;grind)
theorem rk14_c (h:Ro)(r:Fk):Val prog 276 #[Lk r] h (.bool (decide (Bel r.club 192∧1≤r.amount∧r.amount≤1125899906842624))):=by
 refine QXV Proofs.Tryz.func276 fun w0 X0=>?_
 repeat' (first|refine QF ?_|(refine QB ?_;intro b)|(refine QG ?_;first|(refine QDp ?_))|refine QJ ?_|(refine QI ?_ ?_<;>intro hc<;>try omega)|(apply Ac;(iterate 3 exact J)))
 all_goals (refine Bg ?_;(try rw [Me]);grind)
theorem rk16_c (h:Ro)(r:Fk):Val prog 278 #[Lk r] h (.bool true):=by
 refine QXV Proofs.Tryz.func278 fun w0 X0=>?_
 repeat' (first|refine QF ?_|(refine QB ?_;intro b)|(apply Ac;(iterate 3 exact J)))
 all_goals rfl
def Gj (b T:Nat) (cs:List Value):Value→List Asn→Ro→Prop:=fun v Es _=>v=.tuple #[]∧Es=[Blk b T cs]
theorem rk4_c (h:Ro)(bq:Nat)(r x:Fk):Fn prog 266 #[Lk r,.pointer (some ⟨bq,0,none⟩)] [Blk bq 39 (Iy x)] h (Gj bq 39 (Iy { x with g:=r.g,club:=r.club })):=by
 refine QXF Proofs.Tryz.func266 fun w0 X0=>?_
 repeat' (first|refine QC ?_|(refine QB ?_;intro b)|(apply Ad (n:=1) [0,2,3,6,7,8,1,4,5,9,10,11] [(0,0),(1,0),(2,0),(3,0),(4,0),(5,0),(6,0),(7,0),(8,1),(9,0),(10,0),(11,1)];kernel_rfl)|refine QDs ?_|fail)
 exact Ck (Es':=[Blk bq 39 (Iy { x with g:=r.g,club:=r.club })]) QT (Fh (rs:=[]) (vs:=[]) rfl rfl trivial ⟨rfl,rfl⟩)
theorem rk5_c (h:Ro)(bq:Nat)(r x:Fk):Fn prog 267 #[Lk r,.pointer (some ⟨bq,0,none⟩)] [Blk bq 39 (Iy x)] h (Gj bq 39 (Iy { x with g:=r.g })):=by
 refine QXF Proofs.Tryz.func267 fun w0 X0=>?_
 repeat' (first|refine QFs ?_|(refine QB ?_;intro b)|fail)
 exact Ck (Es':=[Blk bq 39 (Iy { x with g:=r.g })]) QT (Fh (rs:=[]) (vs:=[]) rfl rfl trivial ⟨rfl,rfl⟩)
theorem rk7_c (h:Ro)(bq:Nat)(r x:Fk):Fn prog 269 #[Lk r,.pointer (some ⟨bq,0,none⟩)] [Blk bq 39 (Iy x)] h (Gj bq 39 (Iy { x with g:=r.g,hg:=r.hg,ag:=r.ag })):=by
 refine QXF Proofs.Tryz.func269 fun w0 X0=>?_
 repeat' (first|refine QC ?_|(refine QB ?_;intro b)|(apply Ad (n:=1) [0,3,4,9,10,11,1,5,6,12,13,14,2,7,8,15,16,17] [(0,0),(1,0),(2,0),(3,0),(4,0),(5,0),(6,0),(7,0),(8,0),(9,0),(10,0),(11,1),(12,0),(13,0),(14,1),(15,0),(16,0),(17,1)];kernel_rfl)|refine QDs ?_|fail)
 exact Ck (Es':=[Blk bq 39 (Iy { x with g:=r.g,hg:=r.hg,ag:=r.ag })]) QT (Fh (rs:=[]) (vs:=[]) rfl rfl trivial ⟨rfl,rfl⟩)
theorem rk9_c (h:Ro)(bq:Nat)(r x:Fk):Fn prog 271 #[Lk r,.pointer (some ⟨bq,0,none⟩)] [Blk bq 39 (Iy x)] h (Gj bq 39 (Iy { x with club:=r.club,season:=r.season,comp:=r.comp,points:=r.points })):=by
 refine QXF Proofs.Tryz.func271 fun w0 X0=>?_
 repeat' (first|refine QC ?_|(refine QB ?_;intro b)|(apply Ad (n:=1) [0,4,5,12,13,14,1,6,7,15,16,17,2,8,9,18,19,20,3,10,11,21,22,23] [(0,0),(1,0),(2,0),(3,0),(4,0),(5,0),(6,0),(7,0),(8,0),(9,0),(10,0),(11,0),(12,0),(13,0),(14,1),(15,0),(16,0),(17,1),(18,0),(19,0),(20,1),(21,0),(22,0),(23,1)];kernel_rfl)|refine QDs ?_|fail)
 exact Ck (Es':=[Blk bq 39 (Iy { x with club:=r.club,season:=r.season,comp:=r.comp,points:=r.points })]) QT (Fh (rs:=[]) (vs:=[]) rfl rfl trivial ⟨rfl,rfl⟩)
theorem rk11_c (h:Ro)(bq:Nat)(r x:Fk):Fn prog 273 #[Lk r,.pointer (some ⟨bq,0,none⟩)] [Blk bq 39 (Iy x)] h (Gj bq 39 (Iy { x with club:=r.club,lo:=r.lo,hi:=r.hi })):=by
 refine QXF Proofs.Tryz.func273 fun w0 X0=>?_
 repeat' (first|refine QC ?_|(refine QB ?_;intro b)|(apply Ad (n:=1) [0,2,3,6,7,8,1,4,5,9,10,11] [(0,0),(1,0),(2,0),(3,0),(4,0),(5,0),(6,0),(7,0),(8,1),(9,0),(10,0),(11,1)];kernel_rfl)|refine QDs ?_|fail)
 exact Ck (Es':=[Blk bq 39 (Iy { x with club:=r.club,lo:=r.lo,hi:=r.hi })]) QT (Fh (rs:=[]) (vs:=[]) rfl rfl trivial ⟨rfl,rfl⟩)
theorem rk13_c (h:Ro)(bq:Nat)(r x:Fk):Fn prog 275 #[Lk r,.pointer (some ⟨bq,0,none⟩)] [Blk bq 39 (Iy x)] h (Gj bq 39 (Iy { x with player:=r.player,lo:=r.lo,hi:=r.hi })):=by
 refine QXF Proofs.Tryz.func275 fun w0 X0=>?_
 repeat' (first|refine QC ?_|(refine QB ?_;intro b)|(apply Ad (n:=1) [0,2,3,6,7,8,1,4,5,9,10,11] [(0,0),(1,0),(2,0),(3,0),(4,0),(5,0),(6,0),(7,0),(8,1),(9,0),(10,0),(11,1)];kernel_rfl)|refine QDs ?_|fail)
 exact Ck (Es':=[Blk bq 39 (Iy { x with player:=r.player,lo:=r.lo,hi:=r.hi })]) QT (Fh (rs:=[]) (vs:=[]) rfl rfl trivial ⟨rfl,rfl⟩)
theorem rk15_c (h:Ro)(bq:Nat)(r x:Fk):Fn prog 277 #[Lk r,.pointer (some ⟨bq,0,none⟩)] [Blk bq 39 (Iy x)] h (Gj bq 39 (Iy { x with club:=r.club,amount:=r.amount })):=by
 refine QXF Proofs.Tryz.func277 fun w0 X0=>?_
 repeat' (first|refine QC ?_|(refine QB ?_;intro b)|(apply Ad (n:=1) [0,2,3,6,7,8,1,4,5,9,10,11] [(0,0),(1,0),(2,0),(3,0),(4,0),(5,0),(6,0),(7,0),(8,1),(9,0),(10,0),(11,1)];kernel_rfl)|refine QDs ?_|fail)
 exact Ck (Es':=[Blk bq 39 (Iy { x with club:=r.club,amount:=r.amount })]) QT (Fh (rs:=[]) (vs:=[]) rfl rfl trivial ⟨rfl,rfl⟩)
theorem rk17_c (h:Ro)(bq:Nat)(r x:Fk):Fn prog 279 #[Lk r,.pointer (some ⟨bq,0,none⟩)] [Blk bq 39 (Iy x)] h (Gj bq 39 (Iy x)):=by
 refine QXF Proofs.Tryz.func279 fun w0 X0=>?_
 repeat' (first|refine QC ?_|(refine QB ?_;intro b)|fail)
 exact Ck (Es':=[Blk bq 39 (Iy x)]) QT (Fh (rs:=[]) (vs:=[]) rfl rfl trivial ⟨rfl,rfl⟩)
def shV (p:Value×Value):Value:=.agg #[p.1,p.2]
def kL (l:List (Int×(Value×Value))):List (Int×(Value×Value)):=l.foldl (fun m p=>Im p.1 p.2 m) []
theorem Si {κ α:Type}[DecidableEq κ](x y:κ)(a:α):∀ (m:List (κ×α)),Cf y (Im x a m)=if x=y then some a else Cf y m
 | []=>by simp [Im,Cf]
 | (z,b)::r=>by
   by_cases hz:z=x
   · subst hz
     by_cases hy:z=y
     · simp [Im,Cf,hy]
     · simp [Im,Cf,hy]
   · by_cases hy:z=y
     · subst hy
       simp [Im,Cf,hz,Ne.symm hz]
     · simp [Im,Cf,hz,hy,Si x y a r]
theorem Aia {C:Ctx}{l:Sl}{Es Es':List Asn}{h:Ro}{G:Value→List Asn→Ro→Prop}{ty:TypeId}{pos:String}{aft:Array Edge}{gd:Option (Nat×Bool)}{dst:Option Tmp}{t e:TypeId}{x y v:Operand}{b:Nat}{key:Int}{p q:Value}{m:List (Int×(Value×Value))}{T:Ty}
  (K:Uk C.P 3 (fun i:Int=>.int .i64 i)) (hT:By t C.ts=some T) (hTd:T.desc=.map 3 e) (hx:evl l x=some (.map (some b))) (hy:evl l y=some (.int .i64 key)) (hv:evl l v=some (.agg #[p,q]))
  (hR:Lx Es (Cd (fun i:Int=>.int .i64 i) shV b m) (Cd (fun i:Int=>.int .i64 i) shV b (Im key (p,q) m)) Es') (g:G undef Es' h):Fw C l Es h ⟨dst,.insert t x y v,ty,pos,aft,gd⟩ G :=
 Ly K hT hTd hx hy hv (u:=(p,q)) rfl hR g
def fnV (f:Nat) (cs:List Value):Value:=.func (.func f) #[] cs.toArray
def rulL (b1 b2:Nat):List (Int×(Value×Value)):=kL [
 (1,(fnV 265 [.pointer (some ⟨b1,0,none⟩)],fnV 266 [])),
 (2,(fnV 262 [],fnV 267 [])),
 (3,(fnV 268 [.pointer (some ⟨b1,0,none⟩)],fnV 269 [])),
 (4,(fnV 270 [],fnV 271 [])),
 (5,(fnV 272 [.pointer (some ⟨b2,0,none⟩)],fnV 273 [])),
 (6,(fnV 274 [.pointer (some ⟨b2,0,none⟩)],fnV 275 [])),
 (7,(fnV 276 [],fnV 277 [])),
 (8,(fnV 278 [],fnV 279 []))]
theorem rulings_c (h:Ro):Fn prog 215 #[] [] h fun v Es h'=>∃ bm b1 b2,v=.map (some bm)∧Es=[Cd (fun i:Int=>.int .i64 i) shV bm (rulL b1 b2)]∧Hpa h' b1∧Hya h' b2:=by
 refine QXF Proofs.Tryz.func215 fun w0 X0=>?_
 repeat' (first|refine QFs ?_|(refine QB ?_;intro b)|(refine QG ?_;first|(apply Eu (fun i:Int=>.int .i64 i) shV;intro bm)|(apply Aia K7;(iterate 5 exact J);exact QR))|fail)
 rename_i b1
 refine Ip (b:=b1) QK ?_
 intro h1 hle1 hc1
 refine Ip (b:=b) QK ?_
 intro h2 hle2 hc2
 exact Bi rfl rfl rfl (List.Sublist.refl _) ⟨bm,b1,b,rfl,rfl,hc1.le hle2,hc2⟩
def Fy (r:Fk):Fk:={ Hu with case:=r.case,inst:=r.inst,kind:=r.kind }
def RulK (r:Fk) (b1 b2:Nat) (g:Nat) (gcs:List Value) (kf:Nat) (gb:Bool):Prop :=
 Cf r.kind (rulL b1 b2)=some (fnV g gcs,fnV kf [])∧Has prog g∧Has prog kf∧(gb=true↔Ej r)∧(∀ h',Hpa h' b1→Hya h' b2→Val prog g ([]++[Lk r]++gcs).toArray h' (.bool gb)) ∧
 ∀ h' bq,Fn prog kf ([]++[Lk r,.pointer (some ⟨bq,0,none⟩)]++[]).toArray [Blk bq 39 (Iy (Fy r))] h' (Gj bq 39 (Iy (Il r)))
theorem Daa (b1 b2:Nat)(k:Int):Cf k (rulL b1 b2) =
  if 8=k then some (fnV 278 [],fnV 279 [])
  else if 7=k then some (fnV 276 [],fnV 277 [])
  else if 6=k then some (fnV 274 [.pointer (some ⟨b2,0,none⟩)],fnV 275 [])
  else if 5=k then some (fnV 272 [.pointer (some ⟨b2,0,none⟩)],fnV 273 [])
  else if 4=k then some (fnV 270 [],fnV 271 [])
  else if 3=k then some (fnV 268 [.pointer (some ⟨b1,0,none⟩)],fnV 269 [])
  else if 2=k then some (fnV 262 [],fnV 267 [])
  else if 1=k then some (fnV 265 [.pointer (some ⟨b1,0,none⟩)],fnV 266 [])
  else none:=by
 unfold rulL kL
 simp only [List.foldl_cons,List.foldl_nil,Si,Cf]
theorem Mq {r:Fk}{b1 b2:Nat}{g:Nat}{gcs:List Value}{kf:Nat}{gb:Bool}{x:Fk}(hl:Cf r.kind (rulL b1 b2)=some (fnV g gcs,fnV kf []))(hg:Has prog g)(hk:Has prog kf)(hgb:gb=true↔Ej r)
 (hv:∀ h',Hpa h' b1→Hya h' b2→Val prog g ([]++[Lk r]++gcs).toArray h' (.bool gb)) (hx:x=Il r) (hf:∀ h' bq,Fn prog kf ([]++[Lk r,.pointer (some ⟨bq,0,none⟩)]++[]).toArray [Blk bq 39 (Iy (Fy r))] h' (Gj bq 39 (Iy x))) :
 ∃ g gcs kf gb,RulK r b1 b2 g gcs kf gb:=⟨g,gcs,kf,gb,hl,hg,hk,hgb,hv,hx ▸ hf⟩
theorem Iha (r:Fk)(b1 b2:Nat)(hk:1≤r.kind∧r.kind≤8):∃ g gcs kf gb,RulK r b1 b2 g gcs kf gb:=by
 have:r.kind=1∨r.kind=2∨r.kind=3∨r.kind=4∨r.kind=5∨r.kind=6∨r.kind=7∨r.kind=8:=by omega
 rcases this with e|e|e|e|e|e|e|e
 · exact Mq QC3 has265 has266 QCb (fun h' h1 h2=>rk3_c h' b1 h1 r) QCr (fun h' bq=>rk4_c h' bq r (Fy r))
 · exact Mq QC3 has262 has267 QCb (fun h' h1 h2=>rk1_c h' r) QCr (fun h' bq=>rk5_c h' bq r (Fy r))
 · exact Mq QC3 has268 has269 QCb (fun h' h1 h2=>rk6_c h' b1 h1 r) QCr (fun h' bq=>rk7_c h' bq r (Fy r))
 · exact Mq QC3 has270 has271 QCb (fun h' h1 h2=>rk8_c h' r) QCr (fun h' bq=>rk9_c h' bq r (Fy r))
 · exact Mq QC3 has272 has273 QCb (fun h' h1 h2=>rk10_c h' b2 h2 r) QCr (fun h' bq=>rk11_c h' bq r (Fy r))
 · exact Mq QC3 has274 has275 QCb (fun h' h1 h2=>rk12_c h' b2 h2 r) QCr (fun h' bq=>rk13_c h' bq r (Fy r))
 · exact Mq QC3 has276 has277 QCb (fun h' h1 h2=>rk14_c h' r) QCr (fun h' bq=>rk15_c h' bq r (Fy r))
 · exact Mq QC3 has278 has279 (by rw [Ej,e];simp) (fun h' h1 h2=>rk16_c h' r) QCr (fun h' bq=>rk17_c h' bq r (Fy r))
theorem Axa (r:Fk)(b1 b2:Nat)(hk:¬ (1≤r.kind∧r.kind≤8)):Cf r.kind (rulL b1 b2)=none∧¬ Ej r:=by
 constructor
 · rw [Daa]
   repeat rw [if_neg QAd]
 · rw [Ej]
   repeat rw [if_neg QAd]
   omega
open Classical in
theorem ruling_c (h:Ro)(r:Fk):Val prog 157 #[Lk r] h (.bool (decide (If r))):=by
 refine QXV Proofs.Tryz.func157 fun w0 X0=>?_
 by_cases hk:1≤r.kind∧r.kind≤8
 · repeat' (first|refine QFs ?_|(apply Af;exact J;exact J;(first|(apply Hq;exact J;exact J;exact Mp (Il r) r;kernel_rfl;kernel_rfl));exact QA)|(refine QB ?_;intro b)|(refine QG ?_;first|(apply Cr (f:=g) (fs:=[]) (cs:=gcs);exact J;exact J;exact hg;exact hv _ hG hD)|(apply Fo (f:=kf) (fs:=[]) (cs:=[]);exact J;exact J;exact hkf;exact hf _ _;exact QT;rintro v1 E1 h1 hle1 ⟨rfl,rfl⟩))|(apply Ad (n:=1) [0,1,2,3,4,5,7,8,6,9] [(1,0),(2,0),(0,2),(7,7),(3,0),(4,0),(5,0),(6,0),(7,1),(8,1),(9,0),(0,1),(3,0),(4,0),(5,0),(6,0),(8,1),(9,0)];kernel_rfl)|(apply Bk;exact J;kernel_rfl;exact J;exact J;(first|(apply Hb (ek:=fun i:Int=>.int .i64 i) (ev:=shV) (key:=r.kind) (m:=rulL b1 b2) (r:=some (fnV g gcs,fnV kf [])) K7;(iterate 5 exact J);exact hl));exact QA)|(apply Ao;exact J;kernel_rfl;(iterate 3 exact J);(first|(refine QDv ?_;rintro v0 E0 h0 hle0 ⟨bm,b1,b2,rfl,rfl,hG,hD⟩;obtain ⟨g,gcs,kf,gb,hl,hg,hkf,hgb,hv,hf⟩:=Iha r b1 b2 hk;refine ⟨hle0,QN,?_⟩)))|(apply Hi;kernel_rfl;exact J;exact J)|(apply Cq;(iterate 4 exact J);(first|(refine QDv ?_;rintro v0 E0 h0 hle0 ⟨bm,b1,b2,rfl,rfl,hG,hD⟩;obtain ⟨g,gcs,kf,gb,hl,hg,hkf,hgb,hv,hf⟩:=Iha r b1 b2 hk;refine ⟨hle0,QN,?_⟩)))|(refine QH ?_ ?_<;>intro hc<;>try omega)|refine QJ ?_|(refine QI ?_ ?_<;>intro hc<;>try omega)|fail)
   all_goals (first|(apply Ac;(iterate 3 exact J)))
   all_goals (refine Bg ?_;unfold If;grind)
 · repeat' (first|refine QFs ?_|(refine QB ?_;intro b)|(apply Ad (n:=1) [0,1,2,3,4,5,7,8,6,9] [(1,0),(2,0),(0,2),(7,7),(3,0),(4,0),(5,0),(6,0),(7,1),(8,1),(9,0),(0,1),(3,0),(4,0),(5,0),(6,0),(8,1),(9,0)];kernel_rfl)|(apply Bk;exact J;kernel_rfl;exact J;exact J;(first|(apply Hb (ek:=fun i:Int=>.int .i64 i) (ev:=shV) (key:=r.kind) (m:=rulL b1 b2) (r:=none) K7;(iterate 5 exact J);exact hl.1));exact QA)|(apply Ao;exact J;kernel_rfl;(iterate 3 exact J);(first|(refine QDv ?_;rintro v0 E0 h0 hle0 ⟨bm,b1,b2,rfl,rfl,hG,hD⟩;have hl:=Axa r b1 b2 hk;refine ⟨hle0,QN,?_⟩)))|(apply Hi;kernel_rfl;exact J;exact J)|(apply Cq;(iterate 4 exact J);(first|(refine QDv ?_;rintro v0 E0 h0 hle0 ⟨bm,b1,b2,rfl,rfl,hG,hD⟩;have hl:=Axa r b1 b2 hk;refine ⟨hle0,QN,?_⟩)))|(refine QH ?_ ?_<;>intro hc<;>try omega)|fail)
   all_goals (first|(apply Ac;(iterate 3 exact J)))
   all_goals (refine Bg ?_;unfold If;grind)
end Go.Hw
